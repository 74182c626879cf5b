-- written by wip/tool/hprint.py of this repo: the kit's print, with contracts by hand joined; Lean checks it.
import Derived.Test.YtfdopmjgiakcdaaGreatDoorQx0
import Derived.Test.YtfdopmjgiakcdaaGreatDoorQx10
namespace Go.Proofs.YtfdopmjgiakcdaaGreatDoor.Q
open Go.RowKit Go.Proofs.YtfdopmjgiakcdaaGreatDoorW.PrintWords Go.Proofs.YtfdopmjgiakcdaaGreatDoorW.PrintLast Go.Proofs.YtfdopmjgiakcdaaGreatDoorW.PrintMore
attribute [local go_sem] max2_int min2_int max_two min_two max_three min_three max_four min_four   -- for this text's walks alone
set_option linter.unusedVariables false
set_option linter.unusedSimpArgs false

/-! ### tolllaw07_cut: function 15 -/
def tolllaw07_cut.f (k : Nat) (l0_0 : List (S26)) (a0_1 : Int) (a0_2 : ByteArray) (a0_3 : ByteArray) (a0_4 : ByteArray) (a0_5 : ByteArray) (l0_6 : List (S59)) (l0_7 : List (S59)) (a0_8 : Bool) : Option ((List (S26)) × Int × ByteArray × ByteArray × ByteArray × ByteArray × (List (S59)) × (List (S59)) × Bool) := (tolllaw07_Few.f k l0_0).bind fun t240 => ((tolllaw03_Few.f a0_1 a0_2).bind fun bt243 => ((tolllaw06_Asked.f k a0_3 a0_4 a0_5 l0_6 l0_7).bind fun bt245 => (some (t240, bt243.1, bt243.2, bt245.1, bt245.2.1, bt245.2.2.1, bt245.2.2.2.1, bt245.2.2.2.2, a0_8))))
theorem tolllaw07_cut.mono : ∀ a0 a1 a2 a3 a4 a5 a6 a7 a8 k, LeO (tolllaw07_cut.f k a0 a1 a2 a3 a4 a5 a6 a7 a8) (tolllaw07_cut.f (k + 1) a0 a1 a2 a3 a4 a5 a6 a7 a8) := by
 intro a0 a1 a2 a3 a4 a5 a6 a7 a8 k
 unfold tolllaw07_cut.f
 repeat' first
   | (with_reducible exact tolllaw06_Asked.mono _ _ _ _ _ _)
   | (with_reducible exact tolllaw07_Few.mono _ _)
   | (with_reducible exact LeO.refl _)
   | (with_reducible exact LeO.none _)
   | (with_reducible refine LeO.ite ?_ ?_)
   | (with_reducible refine LeO.bind ?_ (fun _ => ?_))
   | exact tolllaw06_Asked.mono _ _ _ _ _ _
   | exact tolllaw07_Few.mono _ _
   | exact LeO.none _
   | refine LeO.ite ?_ ?_
   | refine LeO.bind ?_ (fun _ => ?_)
def tolllaw07_cut.T1 : Bool × List (List Nat × List Nat) := (true, [([], []), ([0], [0]), ([1], [1]), ([], []), ([3], [3]), ([4, 2], [4]), ([], []), ([6], [6]), ([7, 5], [7]), ([], []), ([9], [9]), ([2, 5, 8, 10], [2, 5, 8, 10]), ([11, 8, 0, 1, 2, 3, 4, 5, 6, 7, 8, 9, 10, 11], [11])])
def tolllaw07_cut.B1 : List Nat := [0, 1, 3, 0, 8, 31, 0, 64, 255, 0, 512, 2047, 4095]
theorem tolllaw07_cut.tab1 : rtab .any (opsOf Tryz.f15 1) = tolllaw07_cut.T1 := by kernel_rfl
theorem tolllaw07_cut.bits1 : waitsOk tolllaw07_cut.T1.2 tolllaw07_cut.B1 = true := by kernel_rfl
set_option maxHeartbeats 8000000 in
set_option maxRecDepth 100000 in
theorem tolllaw07_cut.calls (k : Nat) (A0_0 : Option Addr) (c0_0 : Nat) (l0_0 : List (S26)) (a0_1 : Int) (a0_2 : ByteArray) (a0_3 : ByteArray) (a0_4 : ByteArray) (a0_5 : ByteArray) (A0_6 : Option Addr) (c0_6 : Nat) (l0_6 : List (S59)) (A0_7 : Option Addr) (c0_7 : Nat) (l0_7 : List (S59)) (a0_8 : Bool) (r1 : List (S26)) (r2 : Int) (r3 : ByteArray) (r4 : ByteArray) (r5 : ByteArray) (r6 : ByteArray) (r7 : List (S59)) (r8 : List (S59)) (r9 : Bool) (w : World) (hr0_0 : Kd.C k26 w A0_0 l0_0.length l0_0) (hc0_0 : l0_0.length ≤ c0_0) (hr0_6 : Kd.C k59 w A0_6 l0_6.length l0_6) (hc0_6 : l0_6.length ≤ c0_6) (hr0_7 : Kd.C k59 w A0_7 l0_7.length l0_7) (hc0_7 : l0_7.length ≤ c0_7) (h : tolllaw07_cut.f k l0_0 a0_1 a0_2 a0_3 a0_4 a0_5 l0_6 l0_7 a0_8 = some (r1, r2, r3, r4, r5, r6, r7, r8, r9)) :
  Calls Tryz.prog 15 #[.agg #[.slice A0_0 l0_0.length c0_0, .int .i64 a0_1, .string a0_2, .string a0_3, .string a0_4, .string a0_5, .slice A0_6 l0_6.length c0_6, .slice A0_7 l0_7.length c0_7, .bool a0_8]] w fun e w' => ∃ v0_ v6_ v7_ : Value, e = .returned (.agg #[v0_, .int .i64 r2, .string r3, .string r4, .string r5, .string r6, v6_, v7_, .bool r9]) ∧ Kd.R k26 26 w' w.heap.size (fun _ => True) v0_ r1 ∧ Kd.R k59 59 w' w.heap.size (fun k_ => some k_ ≠ (v7_ : Value).ownBlock) v6_ r7 ∧ Kd.R k59 59 w' w.heap.size (fun k_ => some k_ ≠ (v6_ : Value).ownBlock) v7_ r8 ∧ Below w.heap.size w w' := by
 have hu35 := Tryz.underlying35
 have hu30 := Tryz.underlying30
 have hu33 := Tryz.underlying33
 have HR0_0 := Aside0.mk hr0_0
 have HC0_0 := Aside0.mk hc0_0
 clear hr0_0 hc0_0
 have HR0_6 := Aside0.mk hr0_6
 have HC0_6 := Aside0.mk hc0_6
 clear hr0_6 hc0_6
 have HR0_7 := Aside0.mk hr0_7
 have HC0_7 := Aside0.mk hc0_7
 clear hr0_7 hc0_7
 have HB := am_ (Below.refl w.heap.size w)
 have H : ((tolllaw07_Few.f k l0_0).bind fun t240 => ((tolllaw03_Few.f a0_1 a0_2).bind fun bt243 => ((tolllaw06_Asked.f k a0_3 a0_4 a0_5 l0_6 l0_7).bind fun bt245 => (some (t240, bt243.1, bt243.2, bt245.1, bt245.2.1, bt245.2.2.1, bt245.2.2.2.1, bt245.2.2.2.2, a0_8))))) = some (r1, r2, r3, r4, r5, r6, r7, r8, r9) := h
 clear h
 replace H := Option.bind_eq_some_iff.mp H
 obtain ⟨t240, A20, H⟩ := H
 replace H : ((tolllaw03_Few.f a0_1 a0_2).bind fun bt243 => ((tolllaw06_Asked.f k a0_3 a0_4 a0_5 l0_6 l0_7).bind fun bt245 => (some (t240, bt243.1, bt243.2, bt245.1, bt245.2.1, bt245.2.2.1, bt245.2.2.2.1, bt245.2.2.2.2, a0_8)))) = some (r1, r2, r3, r4, r5, r6, r7, r8, r9) := H
 have A2 := Aside0.mk A20
 clear A20
 replace H := Option.bind_eq_some_iff.mp H
 obtain ⟨⟨t243, t244⟩, A30, H⟩ := H
 replace H : ((tolllaw06_Asked.f k a0_3 a0_4 a0_5 l0_6 l0_7).bind fun bt245 => (some (t240, t243, t244, bt245.1, bt245.2.1, bt245.2.2.1, bt245.2.2.2.1, bt245.2.2.2.2, a0_8))) = some (r1, r2, r3, r4, r5, r6, r7, r8, r9) := H
 have A3 := Aside0.mk A30
 clear A30
 replace H := Option.bind_eq_some_iff.mp H
 obtain ⟨⟨t245, t246, t247, t248, t251⟩, A40, H⟩ := H
 replace H : (some (t240, t243, t244, t245, t246, t247, t248, t251, a0_8)) = some (r1, r2, r3, r4, r5, r6, r7, r8, r9) := H
 have A4 := Aside0.mk A40
 clear A40
 simp only [Option.some.injEq, Prod.mk.injEq] at H
 obtain ⟨rfl, rfl, rfl, rfl, rfl, rfl, rfl, rfl, rfl⟩ := H
 go_enter Tryz.func15, Tryz.ntmps15
 try go_wp2_with (first | ((with_reducible refine gate_dst (N := 1) rfl ?_); refine box_event ?hg (N := 1) ?hd (cs := #[.slice A0_0 l0_0.length c0_0, .int .i64 a0_1, .string a0_2, .string a0_3, .string a0_4, .string a0_5, .slice A0_6 l0_6.length c0_6, .slice A0_7 l0_7.length c0_7, .bool a0_8]) (t := 35) ?hr ?_; (case hd => rfl); (case hg => rfl); (case hr => first | (go_simp; done) | (go_simp; rfl)); intro gb238 hg w5 hbox hb; have n0_ := am_ (below_step (bel_ HB.out) hb); have n1_ := am_ (hbox); have n2_ := am_ ((by rw [hg]; exact (below_size (bel_ HB.out)) : w.heap.size ≤ gb238)); have n3_ := am_ ((by rw [hg]; exact (below_size (bel_ HB.out)) : w.heap.size ≤ gb238)); clear HB; have HB := n0_; have BK238 := n1_; have GW238 := n2_; have GE238 := n3_; clear n0_ n1_ n2_ n3_ hb hbox hg) | ((with_reducible refine gate_dst (N := 2) rfl ?_); refine box_event ?hg (N := 2) ?hd (cs := #[.slice none 0 0, .int .i64 0, .string (⟨#[]⟩ : ByteArray), .string (⟨#[]⟩ : ByteArray), .string (⟨#[]⟩ : ByteArray), .string (⟨#[]⟩ : ByteArray), .slice none 0 0, .slice none 0 0, .bool false]) (t := 35) ?hr ?_; (case hd => rfl); (case hg => rfl); (case hr => first | (go_simp; done) | (go_simp; rfl)); intro gb239 hg w6 hbox hb; have n0_ := am_ (blk_below (g := gb238) (o := .cells #[.slice A0_0 l0_0.length c0_0, .int .i64 a0_1, .string a0_2, .string a0_3, .string a0_4, .string a0_5, .slice A0_6 l0_6.length c0_6, .slice A0_7 l0_7.length c0_7, .bool a0_8] 35 (0, 0)) (blk_ BK238.out) hb); have n1_ := am_ (below_step (bel_ HB.out) hb); have n2_ := am_ (hbox); have n3_ := am_ ((by rw [hg]; exact (below_size (bel_ HB.out)) : w.heap.size ≤ gb239)); have n4_ := am_ ((by rw [hg]; exact (below_size (bel_ HB.out)) : w.heap.size ≤ gb239)); have n5_ := am_ ((by rw [hg]; exact Nat.ne_of_lt (blk_lt (g := gb238) (o := .cells #[.slice A0_0 l0_0.length c0_0, .int .i64 a0_1, .string a0_2, .string a0_3, .string a0_4, .string a0_5, .slice A0_6 l0_6.length c0_6, .slice A0_7 l0_7.length c0_7, .bool a0_8] 35 (0, 0)) (blk_ BK238.out)) : gb238 ≠ gb239)); have n6_ := am_ ((by rw [hg]; exact Nat.ne_of_gt (blk_lt (g := gb238) (o := .cells #[.slice A0_0 l0_0.length c0_0, .int .i64 a0_1, .string a0_2, .string a0_3, .string a0_4, .string a0_5, .slice A0_6 l0_6.length c0_6, .slice A0_7 l0_7.length c0_7, .bool a0_8] 35 (0, 0)) (blk_ BK238.out)) : gb239 ≠ gb238)); clear BK238 HB; have BK238 := n0_; have HB := n1_; have BK239 := n2_; have GW239 := n3_; have GE239 := n4_; have NB238_239 := n5_; have NB239_238 := n6_; clear n0_ n1_ n2_ n3_ n4_ n5_ n6_ hb hbox hg))
 have n0_ := am_ (blk_drew BK238.out)
 have n1_ := am_ (blk_drew BK239.out)
 have n2_ := am_ (below_drew1 HB.out)
 clear BK238 BK239 HB
 have BK238 := n0_
 have BK239 := n1_
 have HB := n2_
 clear n0_ n1_ n2_
 refine start_ (n := 13) (S := fun w' => w'.cell? ⟨gb238, 0, none⟩ = some (.slice A0_0 l0_0.length c0_0) ∧ w'.cell? ⟨gb238, 1, none⟩ = some (.int .i64 a0_1) ∧ w'.cell? ⟨gb238, 2, none⟩ = some (.string a0_2) ∧ w'.cell? ⟨gb238, 3, none⟩ = some (.string a0_3) ∧ w'.cell? ⟨gb238, 4, none⟩ = some (.string a0_4) ∧ w'.cell? ⟨gb238, 5, none⟩ = some (.string a0_5) ∧ w'.cell? ⟨gb238, 6, none⟩ = some (.slice A0_6 l0_6.length c0_6) ∧ w'.cell? ⟨gb238, 7, none⟩ = some (.slice A0_7 l0_7.length c0_7) ∧ w'.cell? ⟨gb238, 8, none⟩ = some (.bool a0_8)) (ds := []) #[false, false, false, false, false, false, false, false, false, false, false, false, false] kr_ rfl rfl ⟨(blk_cell BK238.out 0).trans rfl, (blk_cell BK238.out 1).trans rfl, (blk_cell BK238.out 2).trans rfl, (blk_cell BK238.out 3).trans rfl, (blk_cell BK238.out 4).trans rfl, (blk_cell BK238.out 5).trans rfl, (blk_cell BK238.out 6).trans rfl, (blk_cell BK238.out 7).trans rfl, (blk_cell BK238.out 8).trans rfl⟩ (fun hHeld => ?_); refine with_tabW tolllaw07_cut.tab1 tolllaw07_cut.bits1 (fun HT_ HW_ => ?_)
 generalize w6.drew = w7 at BK238 BK239 HB hHeld ⊢
 refine pure_ (i := 0) (N := some 3) (v := ?_) (a' := ?_) #[true, false, false, false, false, false, false, false, false, false, false, false, false] rfl rfl (any_of HT_.out kr_) (fun _ _ _ h => h) (Or.inl ⟨by rfl, ?_⟩) ?_ ?_
 rotate_left
 ·intro w'
  go_simp
  with_reducible rfl
 rotate_left
 ·simp only [Act.put, sx_, s0_, s1_, i64_w, i32_w]
  rfl
 refine pure_ (i := 3) (N := some 6) (v := ?_) (a' := ?_) #[true, false, false, true, false, false, false, false, false, false, false, false, false] rfl rfl (any_of HT_.out kr_) (fun _ _ _ h => h) (Or.inl ⟨by rfl, ?_⟩) ?_ ?_
 rotate_left
 ·intro w'
  go_simp
  with_reducible rfl
 rotate_left
 ·simp only [Act.put, sx_, s0_, s1_, i64_w, i32_w]
  rfl
 refine pure_ (i := 6) (N := some 9) (v := ?_) (a' := ?_) #[true, false, false, true, false, false, true, false, false, false, false, false, false] rfl rfl (any_of HT_.out kr_) (fun _ _ _ h => h) (Or.inl ⟨by rfl, ?_⟩) ?_ ?_
 rotate_left
 ·intro w'
  go_simp
  with_reducible rfl
 rotate_left
 ·simp only [Act.put, sx_, s0_, s1_, i64_w, i32_w]
  rfl
 refine pure_ (i := 9) (N := some 12) (v := ?_) (a' := ?_) #[true, false, false, true, false, false, true, false, false, true, false, false, false] rfl rfl (any_of HT_.out kr_) (fun _ _ _ h => h) (Or.inl ⟨by rfl, ?_⟩) ?_ ?_
 rotate_left
 ·intro w'
  go_simp
  with_reducible rfl
 rotate_left
 ·simp only [Act.put, sx_, s0_, s1_, i64_w, i32_w]
  rfl
 refine take_ (i := 1) (N := some 4) (v := ?_) (a' := ?_) #[true, true, false, true, false, false, true, false, false, true, false, false, false] rfl rfl (take_ofW HT_.out HW_.out kr_) (fun _ _ _ h => h) (Or.inl ⟨by rfl, ?_⟩) hHeld ?_ ?_
 rotate_left
 ·rintro w' ⟨s0, s1, s2, s3, s4, s5, s6, s7, s8⟩
  go_simp
  with_reducible rfl
 rotate_left
 ·simp only [Act.put, sx_, s0_, s1_, i64_w, i32_w]
  rfl
 refine take_ (i := 4) (N := some 7) (v := ?_) (a' := ?_) #[true, true, false, true, true, false, true, false, false, true, false, false, false] rfl rfl (take_ofW HT_.out HW_.out kr_) (fun _ _ _ h => h) (Or.inl ⟨by rfl, ?_⟩) hHeld ?_ ?_
 rotate_left
 ·rintro w' ⟨s0, s1, s2, s3, s4, s5, s6, s7, s8⟩
  go_simp
  with_reducible rfl
 rotate_left
 ·simp only [Act.put, sx_, s0_, s1_, i64_w, i32_w]
  rfl
 refine take_ (i := 7) (N := some 10) (v := ?_) (a' := ?_) #[true, true, false, true, true, false, true, true, false, true, false, false, false] rfl rfl (take_ofW HT_.out HW_.out kr_) (fun _ _ _ h => h) (Or.inl ⟨by rfl, ?_⟩) hHeld ?_ ?_
 rotate_left
 ·rintro w' ⟨s0, s1, s2, s3, s4, s5, s6, s7, s8⟩
  go_simp
  with_reducible rfl
 rotate_left
 ·simp only [Act.put, sx_, s0_, s1_, i64_w, i32_w]
  rfl
 refine take_ (i := 10) (N := some 13) (v := ?_) (a' := ?_) #[true, true, false, true, true, false, true, true, false, true, true, false, false] rfl rfl (take_ofW HT_.out HW_.out kr_) (fun _ _ _ h => h) (Or.inl ⟨by rfl, ?_⟩) hHeld ?_ ?_
 rotate_left
 ·rintro w' ⟨s0, s1, s2, s3, s4, s5, s6, s7, s8⟩
  go_simp
  with_reducible rfl
 rotate_left
 ·simp only [Act.put, sx_, s0_, s1_, i64_w, i32_w]
  rfl
 refine one_ (i := 2) (N := some 5) #[true, true, true, true, true, false, true, true, false, true, true, false, false] rfl rfl (one_of HT_.out kr_) (by decide) (fun K hK => ?_)
 refine goes_ Tryz.func9 kr_ rfl #[.slice A0_0 l0_0.length c0_0] (by rfl) rfl rfl rl_ ?_
 with_reducible refine (tolllaw07_Few.calls k _ _ l0_0 t240 _ ?side1 ?side2 A2.out).mono ?_
 (case side1 => exact C_ (Kd.C_below HR0_0.out HB.out))
 (case side2 => exact HC0_0.out)
 rintro e w8 ⟨v241, rfl, ho0, hb⟩
 refine ⟨_, rfl, ?_⟩
 have n0_ := am_ (Kd.R_lower ho0 (below_size (bel_ HB.out)))
 have n1_ := am_ (blk_below (g := gb238) (o := .cells #[.slice A0_0 l0_0.length c0_0, .int .i64 a0_1, .string a0_2, .string a0_3, .string a0_4, .string a0_5, .slice A0_6 l0_6.length c0_6, .slice A0_7 l0_7.length c0_7, .bool a0_8] 35 (0, 0)) (blk_ BK238.out) hb)
 have n2_ := am_ (blk_below (g := gb239) (o := .cells #[.slice none 0 0, .int .i64 0, .string (⟨#[]⟩ : ByteArray), .string (⟨#[]⟩ : ByteArray), .string (⟨#[]⟩ : ByteArray), .string (⟨#[]⟩ : ByteArray), .slice none 0 0, .slice none 0 0, .bool false] 35 (0, 0)) (blk_ BK239.out) hb)
 have n3_ := am_ (below_step (bel_ HB.out) hb)
 clear BK238 BK239 HB
 have HO242 := n0_
 have BK238 := n1_
 have BK239 := n2_
 have HB := n3_
 clear n0_ n1_ n2_ n3_
 (try clear hb)
 (try clear hb2)
 (try clear hk)
 (try clear hi)
 (try clear ho0)
 refine hK.out _ _ ⟨(blk_cell BK238.out 0).trans rfl, (blk_cell BK238.out 1).trans rfl, (blk_cell BK238.out 2).trans rfl, (blk_cell BK238.out 3).trans rfl, (blk_cell BK238.out 4).trans rfl, (blk_cell BK238.out 5).trans rfl, (blk_cell BK238.out 6).trans rfl, (blk_cell BK238.out 7).trans rfl, (blk_cell BK238.out 8).trans rfl⟩ (fun hHeld => ?_)
 clear hK K
 refine norm_ (a' := ?_) ?_ ?_
 rotate_left
 ·show Act.put _ (some 5) _ = _
  simp only [Act.put, sx_, s0_, s1_, i64_w, i32_w]
  rfl
 refine one_ (i := 5) (N := some 8) #[true, true, true, true, true, true, true, true, false, true, true, false, false] rfl rfl (one_of HT_.out kr_) (by decide) (fun K hK => ?_)
 refine goes_ Tryz.func27 kr_ rfl #[.agg #[.int .i64 a0_1, .string a0_2]] (by rfl) rfl rfl rl_ ?_
 with_reducible refine (tolllaw03_Few.calls a0_1 a0_2 t243 t244 _ A3.out).mono ?_
 rintro e w9 ⟨rfl, hb⟩
 refine ⟨_, rfl, ?_⟩
 have n0_ := am_ (Kd.R_below (R_ HO242.out) hb)
 have n1_ := am_ (blk_below (g := gb238) (o := .cells #[.slice A0_0 l0_0.length c0_0, .int .i64 a0_1, .string a0_2, .string a0_3, .string a0_4, .string a0_5, .slice A0_6 l0_6.length c0_6, .slice A0_7 l0_7.length c0_7, .bool a0_8] 35 (0, 0)) (blk_ BK238.out) hb)
 have n2_ := am_ (blk_below (g := gb239) (o := .cells #[.slice none 0 0, .int .i64 0, .string (⟨#[]⟩ : ByteArray), .string (⟨#[]⟩ : ByteArray), .string (⟨#[]⟩ : ByteArray), .string (⟨#[]⟩ : ByteArray), .slice none 0 0, .slice none 0 0, .bool false] 35 (0, 0)) (blk_ BK239.out) hb)
 have n3_ := am_ (below_step (bel_ HB.out) hb)
 clear HO242 BK238 BK239 HB
 have HO242 := n0_
 have BK238 := n1_
 have BK239 := n2_
 have HB := n3_
 clear n0_ n1_ n2_ n3_
 (try clear hb)
 (try clear hb2)
 (try clear hk)
 (try clear hi)
 refine hK.out _ _ ⟨(blk_cell BK238.out 0).trans rfl, (blk_cell BK238.out 1).trans rfl, (blk_cell BK238.out 2).trans rfl, (blk_cell BK238.out 3).trans rfl, (blk_cell BK238.out 4).trans rfl, (blk_cell BK238.out 5).trans rfl, (blk_cell BK238.out 6).trans rfl, (blk_cell BK238.out 7).trans rfl, (blk_cell BK238.out 8).trans rfl⟩ (fun hHeld => ?_)
 clear hK K
 refine norm_ (a' := ?_) ?_ ?_
 rotate_left
 ·show Act.put _ (some 8) _ = _
  simp only [Act.put, sx_, s0_, s1_, i64_w, i32_w]
  rfl
 refine one_ (i := 8) (N := some 11) #[true, true, true, true, true, true, true, true, true, true, true, false, false] rfl rfl (one_of HT_.out kr_) (by decide) (fun K hK => ?_)
 refine goes_ Tryz.func16 kr_ rfl #[.agg #[.string a0_3, .string a0_4, .string a0_5, .slice A0_6 l0_6.length c0_6, .slice A0_7 l0_7.length c0_7]] (by rfl) rfl rfl rl_ ?_
 with_reducible refine (tolllaw06_Asked.calls k a0_3 a0_4 a0_5 _ _ l0_6 _ _ l0_7 t245 t246 t247 t248 t251 _ ?side1 ?side2 ?side3 ?side4 A4.out).mono ?_
 (case side1 => exact C_ (Kd.C_below HR0_6.out HB.out))
 (case side2 => exact HC0_6.out)
 (case side3 => exact C_ (Kd.C_below HR0_7.out HB.out))
 (case side4 => exact HC0_7.out)
 rintro e w10 ⟨v249, v252, rfl, ho0, ho1, hb⟩
 refine ⟨_, rfl, ?_⟩
 have n0_ := am_ (Kd.R_below (R_ HO242.out) hb)
 have n1_ := am_ (Kd.R_lower ho0 (below_size (bel_ HB.out)))
 have n2_ := am_ (Kd.R_lower ho1 (below_size (bel_ HB.out)))
 have n3_ := am_ (blk_below (g := gb238) (o := .cells #[.slice A0_0 l0_0.length c0_0, .int .i64 a0_1, .string a0_2, .string a0_3, .string a0_4, .string a0_5, .slice A0_6 l0_6.length c0_6, .slice A0_7 l0_7.length c0_7, .bool a0_8] 35 (0, 0)) (blk_ BK238.out) hb)
 have n4_ := am_ (blk_below (g := gb239) (o := .cells #[.slice none 0 0, .int .i64 0, .string (⟨#[]⟩ : ByteArray), .string (⟨#[]⟩ : ByteArray), .string (⟨#[]⟩ : ByteArray), .string (⟨#[]⟩ : ByteArray), .slice none 0 0, .slice none 0 0, .bool false] 35 (0, 0)) (blk_ BK239.out) hb)
 have n5_ := am_ (below_step (bel_ HB.out) hb)
 clear HO242 BK238 BK239 HB
 have HO242 := n0_
 have HO250 := n1_
 have HO253 := n2_
 have BK238 := n3_
 have BK239 := n4_
 have HB := n5_
 clear n0_ n1_ n2_ n3_ n4_ n5_
 (try clear hb)
 (try clear hb2)
 (try clear hk)
 (try clear hi)
 (try clear ho0)
 (try clear ho1)
 obtain ⟨Ao11, co11, eo11⟩ := Kd.R_slice HO253.out
 (first | subst eo11 | (injection eo11 with f1_ f2_ f3_; have f4_ := f1_.symm; have f5_ := f3_.symm; clear f1_ f2_ f3_; subst f4_; subst f5_))
 obtain ⟨Ao12, co12, eo12⟩ := Kd.R_slice HO250.out
 (first | subst eo12 | (injection eo12 with f1_ f2_ f3_; have f4_ := f1_.symm; have f5_ := f3_.symm; clear f1_ f2_ f3_; subst f4_; subst f5_))
 obtain ⟨Ao13, co13, eo13⟩ := Kd.R_slice HO242.out
 (first | subst eo13 | (injection eo13 with f1_ f2_ f3_; have f4_ := f1_.symm; have f5_ := f3_.symm; clear f1_ f2_ f3_; subst f4_; subst f5_))
 refine hK.out _ _ ⟨(blk_cell BK238.out 0).trans rfl, (blk_cell BK238.out 1).trans rfl, (blk_cell BK238.out 2).trans rfl, (blk_cell BK238.out 3).trans rfl, (blk_cell BK238.out 4).trans rfl, (blk_cell BK238.out 5).trans rfl, (blk_cell BK238.out 6).trans rfl, (blk_cell BK238.out 7).trans rfl, (blk_cell BK238.out 8).trans rfl⟩ (fun hHeld => ?_)
 clear hK K
 refine norm_ (a' := ?_) ?_ ?_
 rotate_left
 ·show Act.put _ (some 11) _ = _
  simp only [Act.put, sx_, s0_, s1_, i64_w, i32_w]
  rfl
 refine pure_ (i := 11) (N := some 14) (v := ?_) (a' := ?_) #[true, true, true, true, true, true, true, true, true, true, true, true, false] rfl rfl (any_of HT_.out kr_) (fun _ _ _ h => h) (Or.inl ⟨by rfl, ?_⟩) ?_ ?_
 rotate_left
 ·intro w'
  go_simp
  with_reducible rfl
 rotate_left
 ·simp only [Act.put, sx_, s0_, s1_, i64_w, i32_w]
  rfl
 refine one_ (i := 12) (N := none) #[true, true, true, true, true, true, true, true, true, true, true, true, true] rfl rfl (one_of HT_.out kr_) (by decide) (fun K hK => ?_)
 have hs14 : w10.cell? ⟨gb239, 0, none⟩ = some (.slice none 0 0) := (blk_cell BK239.out 0).trans rfl
 have hfs14 := blk_frozen BK239.out 0
 have hns14_0 := NB238_239.out
 have hms14_0 := NB239_238.out
 have hs15 : w10.cell? ⟨gb239, 1, none⟩ = some (.int .i64 0) := (blk_cell BK239.out 1).trans rfl
 have hfs15 := blk_frozen BK239.out 1
 have hns15_0 := NB238_239.out
 have hms15_0 := NB239_238.out
 have hs16 : w10.cell? ⟨gb239, 2, none⟩ = some (.string (⟨#[]⟩ : ByteArray)) := (blk_cell BK239.out 2).trans rfl
 have hfs16 := blk_frozen BK239.out 2
 have hns16_0 := NB238_239.out
 have hms16_0 := NB239_238.out
 have hs17 : w10.cell? ⟨gb239, 3, none⟩ = some (.string (⟨#[]⟩ : ByteArray)) := (blk_cell BK239.out 3).trans rfl
 have hfs17 := blk_frozen BK239.out 3
 have hns17_0 := NB238_239.out
 have hms17_0 := NB239_238.out
 have hs18 : w10.cell? ⟨gb239, 4, none⟩ = some (.string (⟨#[]⟩ : ByteArray)) := (blk_cell BK239.out 4).trans rfl
 have hfs18 := blk_frozen BK239.out 4
 have hns18_0 := NB238_239.out
 have hms18_0 := NB239_238.out
 have hs19 : w10.cell? ⟨gb239, 5, none⟩ = some (.string (⟨#[]⟩ : ByteArray)) := (blk_cell BK239.out 5).trans rfl
 have hfs19 := blk_frozen BK239.out 5
 have hns19_0 := NB238_239.out
 have hms19_0 := NB239_238.out
 have hs20 : w10.cell? ⟨gb239, 6, none⟩ = some (.slice none 0 0) := (blk_cell BK239.out 6).trans rfl
 have hfs20 := blk_frozen BK239.out 6
 have hns20_0 := NB238_239.out
 have hms20_0 := NB239_238.out
 have hs21 : w10.cell? ⟨gb239, 7, none⟩ = some (.slice none 0 0) := (blk_cell BK239.out 7).trans rfl
 have hfs21 := blk_frozen BK239.out 7
 have hns21_0 := NB238_239.out
 have hms21_0 := NB239_238.out
 have hs22 : w10.cell? ⟨gb239, 8, none⟩ = some (.bool false) := (blk_cell BK239.out 8).trans rfl
 have hfs22 := blk_frozen BK239.out 8
 have hns22_0 := NB238_239.out
 have hms22_0 := NB239_238.out
 refine skip_ (w1 := ?_) (by rfl) rfl ?_ ?_
 rotate_left
 ·go_simp
  rfl
 refine hK.out _ _ ⟨((cell_far (p := ⟨gb239, _, none⟩) NB238_239.out _).trans (((cell_far (p := ⟨gb239, _, none⟩) NB238_239.out _).trans (((cell_far (p := ⟨gb239, _, none⟩) NB238_239.out _).trans (((cell_far (p := ⟨gb239, _, none⟩) NB238_239.out _).trans (((cell_far (p := ⟨gb239, _, none⟩) NB238_239.out _).trans (((cell_far (p := ⟨gb239, _, none⟩) NB238_239.out _).trans (((cell_far (p := ⟨gb239, _, none⟩) NB238_239.out _).trans (((cell_far (p := ⟨gb239, _, none⟩) NB238_239.out _).trans (((cell_far (p := ⟨gb239, _, none⟩) NB238_239.out _).trans (hHeld.1)))))))))))))))))), ((cell_far (p := ⟨gb239, _, none⟩) NB238_239.out _).trans (((cell_far (p := ⟨gb239, _, none⟩) NB238_239.out _).trans (((cell_far (p := ⟨gb239, _, none⟩) NB238_239.out _).trans (((cell_far (p := ⟨gb239, _, none⟩) NB238_239.out _).trans (((cell_far (p := ⟨gb239, _, none⟩) NB238_239.out _).trans (((cell_far (p := ⟨gb239, _, none⟩) NB238_239.out _).trans (((cell_far (p := ⟨gb239, _, none⟩) NB238_239.out _).trans (((cell_far (p := ⟨gb239, _, none⟩) NB238_239.out _).trans (((cell_far (p := ⟨gb239, _, none⟩) NB238_239.out _).trans (hHeld.2.1)))))))))))))))))), ((cell_far (p := ⟨gb239, _, none⟩) NB238_239.out _).trans (((cell_far (p := ⟨gb239, _, none⟩) NB238_239.out _).trans (((cell_far (p := ⟨gb239, _, none⟩) NB238_239.out _).trans (((cell_far (p := ⟨gb239, _, none⟩) NB238_239.out _).trans (((cell_far (p := ⟨gb239, _, none⟩) NB238_239.out _).trans (((cell_far (p := ⟨gb239, _, none⟩) NB238_239.out _).trans (((cell_far (p := ⟨gb239, _, none⟩) NB238_239.out _).trans (((cell_far (p := ⟨gb239, _, none⟩) NB238_239.out _).trans (((cell_far (p := ⟨gb239, _, none⟩) NB238_239.out _).trans (hHeld.2.2.1)))))))))))))))))), ((cell_far (p := ⟨gb239, _, none⟩) NB238_239.out _).trans (((cell_far (p := ⟨gb239, _, none⟩) NB238_239.out _).trans (((cell_far (p := ⟨gb239, _, none⟩) NB238_239.out _).trans (((cell_far (p := ⟨gb239, _, none⟩) NB238_239.out _).trans (((cell_far (p := ⟨gb239, _, none⟩) NB238_239.out _).trans (((cell_far (p := ⟨gb239, _, none⟩) NB238_239.out _).trans (((cell_far (p := ⟨gb239, _, none⟩) NB238_239.out _).trans (((cell_far (p := ⟨gb239, _, none⟩) NB238_239.out _).trans (((cell_far (p := ⟨gb239, _, none⟩) NB238_239.out _).trans (hHeld.2.2.2.1)))))))))))))))))), ((cell_far (p := ⟨gb239, _, none⟩) NB238_239.out _).trans (((cell_far (p := ⟨gb239, _, none⟩) NB238_239.out _).trans (((cell_far (p := ⟨gb239, _, none⟩) NB238_239.out _).trans (((cell_far (p := ⟨gb239, _, none⟩) NB238_239.out _).trans (((cell_far (p := ⟨gb239, _, none⟩) NB238_239.out _).trans (((cell_far (p := ⟨gb239, _, none⟩) NB238_239.out _).trans (((cell_far (p := ⟨gb239, _, none⟩) NB238_239.out _).trans (((cell_far (p := ⟨gb239, _, none⟩) NB238_239.out _).trans (((cell_far (p := ⟨gb239, _, none⟩) NB238_239.out _).trans (hHeld.2.2.2.2.1)))))))))))))))))), ((cell_far (p := ⟨gb239, _, none⟩) NB238_239.out _).trans (((cell_far (p := ⟨gb239, _, none⟩) NB238_239.out _).trans (((cell_far (p := ⟨gb239, _, none⟩) NB238_239.out _).trans (((cell_far (p := ⟨gb239, _, none⟩) NB238_239.out _).trans (((cell_far (p := ⟨gb239, _, none⟩) NB238_239.out _).trans (((cell_far (p := ⟨gb239, _, none⟩) NB238_239.out _).trans (((cell_far (p := ⟨gb239, _, none⟩) NB238_239.out _).trans (((cell_far (p := ⟨gb239, _, none⟩) NB238_239.out _).trans (((cell_far (p := ⟨gb239, _, none⟩) NB238_239.out _).trans (hHeld.2.2.2.2.2.1)))))))))))))))))), ((cell_far (p := ⟨gb239, _, none⟩) NB238_239.out _).trans (((cell_far (p := ⟨gb239, _, none⟩) NB238_239.out _).trans (((cell_far (p := ⟨gb239, _, none⟩) NB238_239.out _).trans (((cell_far (p := ⟨gb239, _, none⟩) NB238_239.out _).trans (((cell_far (p := ⟨gb239, _, none⟩) NB238_239.out _).trans (((cell_far (p := ⟨gb239, _, none⟩) NB238_239.out _).trans (((cell_far (p := ⟨gb239, _, none⟩) NB238_239.out _).trans (((cell_far (p := ⟨gb239, _, none⟩) NB238_239.out _).trans (((cell_far (p := ⟨gb239, _, none⟩) NB238_239.out _).trans (hHeld.2.2.2.2.2.2.1)))))))))))))))))), ((cell_far (p := ⟨gb239, _, none⟩) NB238_239.out _).trans (((cell_far (p := ⟨gb239, _, none⟩) NB238_239.out _).trans (((cell_far (p := ⟨gb239, _, none⟩) NB238_239.out _).trans (((cell_far (p := ⟨gb239, _, none⟩) NB238_239.out _).trans (((cell_far (p := ⟨gb239, _, none⟩) NB238_239.out _).trans (((cell_far (p := ⟨gb239, _, none⟩) NB238_239.out _).trans (((cell_far (p := ⟨gb239, _, none⟩) NB238_239.out _).trans (((cell_far (p := ⟨gb239, _, none⟩) NB238_239.out _).trans (((cell_far (p := ⟨gb239, _, none⟩) NB238_239.out _).trans (hHeld.2.2.2.2.2.2.2.1)))))))))))))))))), ((cell_far (p := ⟨gb239, _, none⟩) NB238_239.out _).trans (((cell_far (p := ⟨gb239, _, none⟩) NB238_239.out _).trans (((cell_far (p := ⟨gb239, _, none⟩) NB238_239.out _).trans (((cell_far (p := ⟨gb239, _, none⟩) NB238_239.out _).trans (((cell_far (p := ⟨gb239, _, none⟩) NB238_239.out _).trans (((cell_far (p := ⟨gb239, _, none⟩) NB238_239.out _).trans (((cell_far (p := ⟨gb239, _, none⟩) NB238_239.out _).trans (((cell_far (p := ⟨gb239, _, none⟩) NB238_239.out _).trans (((cell_far (p := ⟨gb239, _, none⟩) NB238_239.out _).trans (hHeld.2.2.2.2.2.2.2.2))))))))))))))))))⟩ (fun hHeld => ?_)
 clear hK K
 refine done_ (done_of HT_.out kr_) ?_
 try go_wp2
 refine bodyPost_ret (results_cell_row rfl _ _ gb239 35 #[.slice Ao13 t240.length co13, .int .i64 t243, .string t244, .string t245, .string t246, .string t247, .slice Ao12 t248.length co12, .slice Ao11 t251.length co11, .bool a0_8] (0, 0) _ rfl (by (with_reducible repeat (first | refine blk_drewN ?_ _ | refine blk_drew ?_ | refine blk_alloc ?_ _)); refine blk_put (cs := #[.slice Ao13 t240.length co13, .int .i64 t243, .string t244, .string t245, .string t246, .string t247, .slice Ao12 t248.length co12, .slice Ao11 t251.length co11, .bool false]) ?_ 8 _ rfl; (with_reducible repeat (first | refine blk_drewN ?_ _ | refine blk_drew ?_ | refine blk_alloc ?_ _)); refine blk_put (cs := #[.slice Ao13 t240.length co13, .int .i64 t243, .string t244, .string t245, .string t246, .string t247, .slice Ao12 t248.length co12, .slice none 0 0, .bool false]) ?_ 7 _ rfl; (with_reducible repeat (first | refine blk_drewN ?_ _ | refine blk_drew ?_ | refine blk_alloc ?_ _)); refine blk_put (cs := #[.slice Ao13 t240.length co13, .int .i64 t243, .string t244, .string t245, .string t246, .string t247, .slice none 0 0, .slice none 0 0, .bool false]) ?_ 6 _ rfl; (with_reducible repeat (first | refine blk_drewN ?_ _ | refine blk_drew ?_ | refine blk_alloc ?_ _)); refine blk_put (cs := #[.slice Ao13 t240.length co13, .int .i64 t243, .string t244, .string t245, .string t246, .string (⟨#[]⟩ : ByteArray), .slice none 0 0, .slice none 0 0, .bool false]) ?_ 5 _ rfl; (with_reducible repeat (first | refine blk_drewN ?_ _ | refine blk_drew ?_ | refine blk_alloc ?_ _)); refine blk_put (cs := #[.slice Ao13 t240.length co13, .int .i64 t243, .string t244, .string t245, .string (⟨#[]⟩ : ByteArray), .string (⟨#[]⟩ : ByteArray), .slice none 0 0, .slice none 0 0, .bool false]) ?_ 4 _ rfl; (with_reducible repeat (first | refine blk_drewN ?_ _ | refine blk_drew ?_ | refine blk_alloc ?_ _)); refine blk_put (cs := #[.slice Ao13 t240.length co13, .int .i64 t243, .string t244, .string (⟨#[]⟩ : ByteArray), .string (⟨#[]⟩ : ByteArray), .string (⟨#[]⟩ : ByteArray), .slice none 0 0, .slice none 0 0, .bool false]) ?_ 3 _ rfl; (with_reducible repeat (first | refine blk_drewN ?_ _ | refine blk_drew ?_ | refine blk_alloc ?_ _)); refine blk_put (cs := #[.slice Ao13 t240.length co13, .int .i64 t243, .string (⟨#[]⟩ : ByteArray), .string (⟨#[]⟩ : ByteArray), .string (⟨#[]⟩ : ByteArray), .string (⟨#[]⟩ : ByteArray), .slice none 0 0, .slice none 0 0, .bool false]) ?_ 2 _ rfl; (with_reducible repeat (first | refine blk_drewN ?_ _ | refine blk_drew ?_ | refine blk_alloc ?_ _)); refine blk_put (cs := #[.slice Ao13 t240.length co13, .int .i64 0, .string (⟨#[]⟩ : ByteArray), .string (⟨#[]⟩ : ByteArray), .string (⟨#[]⟩ : ByteArray), .string (⟨#[]⟩ : ByteArray), .slice none 0 0, .slice none 0 0, .bool false]) ?_ 1 _ rfl; (with_reducible repeat (first | refine blk_drewN ?_ _ | refine blk_drew ?_ | refine blk_alloc ?_ _)); refine blk_put (cs := #[.slice none 0 0, .int .i64 0, .string (⟨#[]⟩ : ByteArray), .string (⟨#[]⟩ : ByteArray), .string (⟨#[]⟩ : ByteArray), .string (⟨#[]⟩ : ByteArray), .slice none 0 0, .slice none 0 0, .bool false]) ?_ 0 _ rfl; (with_reducible repeat (first | refine blk_drewN ?_ _ | refine blk_drew ?_ | refine blk_alloc ?_ _)); exact BK239.out) Tryz.underlying35 rfl kr_) rfl ?_
 exact ⟨_, _, _, by first | rfl | (simp [errW_none, errW_some] <;> rfl) | (simp [*, errW_none, errW_some] <;> rfl), by (with_reducible repeat (first | apply Kd.R_alloc | apply Kd.R_drewN | apply Kd.R_drew)); exact Kd.R_mono (Kd.R_far (p := ⟨gb239, 8, none⟩) (Kd.R_far (p := ⟨gb239, 7, none⟩) (Kd.R_far (p := ⟨gb239, 6, none⟩) (Kd.R_far (p := ⟨gb239, 5, none⟩) (Kd.R_far (p := ⟨gb239, 4, none⟩) (Kd.R_far (p := ⟨gb239, 3, none⟩) (Kd.R_far (p := ⟨gb239, 2, none⟩) (Kd.R_far (p := ⟨gb239, 1, none⟩) (Kd.R_far (p := ⟨gb239, 0, none⟩) (Kd.R_types HO242.out BK239.out (by decide)) (fun _ hk => hk.2) (.slice Ao13 t240.length co13)) (fun _ hk => hk.2) (.int .i64 t243)) (fun _ hk => hk.2) (.string t244)) (fun _ hk => hk.2) (.string t245)) (fun _ hk => hk.2) (.string t246)) (fun _ hk => hk.2) (.string t247)) (fun _ hk => hk.2) (.slice Ao12 t248.length co12)) (fun _ hk => hk.2) (.slice Ao11 t251.length co11)) (fun _ hk => hk.2) (.bool a0_8)) (fun _ hk => trivial), by (with_reducible repeat (first | apply Kd.R_alloc | apply Kd.R_drewN | apply Kd.R_drew)); exact Kd.R_mono (Kd.R_far (p := ⟨gb239, 8, none⟩) (Kd.R_far (p := ⟨gb239, 7, none⟩) (Kd.R_far (p := ⟨gb239, 6, none⟩) (Kd.R_far (p := ⟨gb239, 5, none⟩) (Kd.R_far (p := ⟨gb239, 4, none⟩) (Kd.R_far (p := ⟨gb239, 3, none⟩) (Kd.R_far (p := ⟨gb239, 2, none⟩) (Kd.R_far (p := ⟨gb239, 1, none⟩) (Kd.R_far (p := ⟨gb239, 0, none⟩) (Kd.R_types HO250.out BK239.out (by decide)) (fun _ hk => hk.2) (.slice Ao13 t240.length co13)) (fun _ hk => hk.2) (.int .i64 t243)) (fun _ hk => hk.2) (.string t244)) (fun _ hk => hk.2) (.string t245)) (fun _ hk => hk.2) (.string t246)) (fun _ hk => hk.2) (.string t247)) (fun _ hk => hk.2) (.slice Ao12 t248.length co12)) (fun _ hk => hk.2) (.slice Ao11 t251.length co11)) (fun _ hk => hk.2) (.bool a0_8)) (fun _ hk => hk.1), by (with_reducible repeat (first | apply Kd.R_alloc | apply Kd.R_drewN | apply Kd.R_drew)); exact Kd.R_mono (Kd.R_far (p := ⟨gb239, 8, none⟩) (Kd.R_far (p := ⟨gb239, 7, none⟩) (Kd.R_far (p := ⟨gb239, 6, none⟩) (Kd.R_far (p := ⟨gb239, 5, none⟩) (Kd.R_far (p := ⟨gb239, 4, none⟩) (Kd.R_far (p := ⟨gb239, 3, none⟩) (Kd.R_far (p := ⟨gb239, 2, none⟩) (Kd.R_far (p := ⟨gb239, 1, none⟩) (Kd.R_far (p := ⟨gb239, 0, none⟩) (Kd.R_types HO253.out BK239.out (by decide)) (fun _ hk => hk.2) (.slice Ao13 t240.length co13)) (fun _ hk => hk.2) (.int .i64 t243)) (fun _ hk => hk.2) (.string t244)) (fun _ hk => hk.2) (.string t245)) (fun _ hk => hk.2) (.string t246)) (fun _ hk => hk.2) (.string t247)) (fun _ hk => hk.2) (.slice Ao12 t248.length co12)) (fun _ hk => hk.2) (.slice Ao11 t251.length co11)) (fun _ hk => hk.2) (.bool a0_8)) (fun _ hk => hk.1), bel_ HB.out⟩

end Go.Proofs.YtfdopmjgiakcdaaGreatDoor.Q
