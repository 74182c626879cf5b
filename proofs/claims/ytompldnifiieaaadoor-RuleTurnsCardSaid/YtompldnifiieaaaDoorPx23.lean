-- written by wip/tool/hprint.py of this repo: the kit's print, with contracts by hand joined; Lean checks it.
import Derived.Test.YtompldnifiieaaaDoorPx0
import Derived.Test.YtompldnifiieaaaDoorPx5
import Derived.Test.YtompldnifiieaaaDoorPx6
import Derived.Test.YtompldnifiieaaaDoorPx7
import Derived.Test.YtompldnifiieaaaDoorPx8
import Derived.Test.YtompldnifiieaaaDoorPx9
namespace Go.Proofs.YtompldnifiieaaaDoor.P
open Go.RowKit Go.Proofs.YtompldnifiieaaaDoorW.PrintWords Go.Proofs.YtompldnifiieaaaDoorW.PrintLast Go.Proofs.YtompldnifiieaaaDoorW.PrintMore
attribute [local go_sem] max2_int min2_int max_two min_two max_three min_three max_four min_four   -- for this text's walks alone
set_option linter.unusedVariables false
set_option linter.unusedSimpArgs false

/-! ### tolllaw06_RuleTurns: function 8 -/
mutual
noncomputable def tolllaw06_RuleTurns.j0 : Nat → List (S26) → Int → ByteArray → ByteArray → ByteArray → List (S49) → List (S49) → Option (Bool)
 | 0, _, _, _, _, _, _, _ => none
 | k + 1, x0, x2, x943000, x943001, x943002, x943003, x943004 => (rule_First.f k x0 x943000 x943001 x943002 x943003 x943004).bind fun bt955 => (if (x0.length : Int) = 0 then (if bt955.2 = true then (none) else ((tolllaw06_awake.f).bind fun t957 => (some t957))) else ((some (([] : List (S26)) : List (S26))).bind fun y958 => (if 0 ≤ (Int.tmod (wrap64 (x2)) (x0.length : Int)) then (if (Int.tmod (wrap64 (x2)) (x0.length : Int)) ≤ (x0.length : Int) then ((some (x0.drop ((Int.tmod (wrap64 (x2)) (x0.length : Int)) : Int).toNat : List (S26))).bind fun y961 => (if y958.length + y961.length < 1599289640401 then ((some (y958 ++ y961 : List (S26))).bind fun y966 => ((some (x0.take ((Int.tmod (wrap64 (x2)) (x0.length : Int)) : Int).toNat : List (S26))).bind fun y969 => (if y966.length + y969.length < 1599289640401 then ((some (y966 ++ y969 : List (S26))).bind fun y974 => ((rule_First.f k y974 x943000 x943001 x943002 x943003 x943004).bind fun bt977 => ((some (([] : List (S26)) : List (S26))).bind fun y979 => (if y979.length + x0.length < 1599289640401 then ((some (y979 ++ x0 : List (S26))).bind fun y982 => (if y982.length + x0.length < 1599289640401 then ((rule_First.f k (y982 ++ x0) x943000 x943001 x943002 x943003 x943004).bind fun bt988 => (if (bt955.2 != bt977.2) = true then (none) else (if (bt955.2 != bt988.2) = true then (none) else (tolllaw06_RuleTurns.j1 k x0 bt955.1 bt955.2 y974 bt977.1 (bt988.1 != bt955.1))))) else (none))) else (none))))) else (none)))) else (none))) else (none)) else (none))))
noncomputable def tolllaw06_RuleTurns.j1 : Nat → List (S26) → Int → Bool → List (S26) → Int → Bool → Option (Bool)
 | 0, _, _, _, _, _, _ => none
 | k + 1, x0, x7, x8, x10, x11, x75 => if x75 = true then (none) else (if x8 = true then (if x7 < 0 then (none) else (if x7 ≥ (x0.length : Int) then (none) else (if x11 < 0 then (none) else (tolllaw06_RuleTurns.j2 k x0 x7 x10 x11 (decide (x11 ≥ (x0.length : Int))))))) else ((tolllaw06_awake.f).bind fun t990 => (some t990)))
noncomputable def tolllaw06_RuleTurns.j2 : Nat → List (S26) → Int → List (S26) → Int → Bool → Option (Bool)
 | 0, _, _, _, _, _ => none
 | k + 1, x0, x7, x10, x11, x96 => if x96 = true then (none) else (if 0 ≤ x7 then (if x7 < (x0.length : Int) then (if 0 ≤ x11 then (if x11 < (x10.length : Int) then ((rule_Order.f ((rd_T26 x0 x7).f0.f0) ((rd_T26 x0 x7).f0.f1) ((rd_T26 x0 x7).f1) ((rd_T26 x0 x7).f2) ((rd_T26 x0 x7).f3) ((rd_T26 x10 x11).f0.f0) ((rd_T26 x10 x11).f0.f1) ((rd_T26 x10 x11).f1) ((rd_T26 x10 x11).f2) ((rd_T26 x10 x11).f3)).bind fun t993 => (if t993 = 0 then ((tolllaw06_awake.f).bind fun t994 => (some t994)) else (none))) else (none)) else (none)) else (none)) else (none))
end
noncomputable def tolllaw06_RuleTurns.f (k : Nat) (l0 : List (S26)) (a1_0 : ByteArray) (a1_1 : ByteArray) (a1_2 : ByteArray) (l1_3 : List (S49)) (l1_4 : List (S49)) (a2 : Int) : Option (Bool) := (tolllaw06_some.f k l0).bind fun t943 => ((tolllaw06_Asked.f k a1_0 a1_1 a1_2 l1_3 l1_4).bind fun bt946 => (tolllaw06_RuleTurns.j0 k t943 a2 bt946.1 bt946.2.1 bt946.2.2.1 bt946.2.2.2.1 bt946.2.2.2.2))
theorem tolllaw06_RuleTurns.mono_l : ∀ k, (∀ y0 y1 y2 y3 y4 y5 y6, LeO (tolllaw06_RuleTurns.j0 k y0 y1 y2 y3 y4 y5 y6) (tolllaw06_RuleTurns.j0 (k + 1) y0 y1 y2 y3 y4 y5 y6)) ∧ (∀ y0 y1 y2 y3 y4 y5, LeO (tolllaw06_RuleTurns.j1 k y0 y1 y2 y3 y4 y5) (tolllaw06_RuleTurns.j1 (k + 1) y0 y1 y2 y3 y4 y5)) ∧ (∀ y0 y1 y2 y3 y4, LeO (tolllaw06_RuleTurns.j2 k y0 y1 y2 y3 y4) (tolllaw06_RuleTurns.j2 (k + 1) y0 y1 y2 y3 y4))
 | 0 => ⟨fun _ _ _ _ _ _ _ r h => by simp [tolllaw06_RuleTurns.j0] at h, fun _ _ _ _ _ _ r h => by simp [tolllaw06_RuleTurns.j1] at h, fun _ _ _ _ _ r h => by simp [tolllaw06_RuleTurns.j2] at h⟩
 | k + 1 => by
  obtain ⟨ih0, ih1, ih2⟩ := tolllaw06_RuleTurns.mono_l k
  refine ⟨?_, ?_, ?_⟩
  ·intro y0 y1 y2 y3 y4 y5 y6
   unfold tolllaw06_RuleTurns.j0
   repeat' first
   | (with_reducible exact ih0 _ _ _ _ _ _ _)
   | (with_reducible exact ih1 _ _ _ _ _ _)
   | (with_reducible exact ih2 _ _ _ _ _)
   | (with_reducible exact rule_First.mono _ _ _ _ _ _ _)
   | (with_reducible exact tolllaw06_Asked.mono _ _ _ _ _ _)
   | (with_reducible exact tolllaw06_some.mono _ _)
   | (with_reducible exact LeO.refl _)
   | (with_reducible exact LeO.none _)
   | (with_reducible refine LeO.ite ?_ ?_)
   | (with_reducible refine LeO.bind ?_ (fun _ => ?_))
   | exact ih0 _ _ _ _ _ _ _
   | exact ih1 _ _ _ _ _ _
   | exact ih2 _ _ _ _ _
   | exact rule_First.mono _ _ _ _ _ _ _
   | exact tolllaw06_Asked.mono _ _ _ _ _ _
   | exact tolllaw06_some.mono _ _
   | exact LeO.none _
   | refine LeO.ite ?_ ?_
   | refine LeO.bind ?_ (fun _ => ?_)
  ·intro y0 y1 y2 y3 y4 y5
   unfold tolllaw06_RuleTurns.j1
   repeat' first
   | (with_reducible exact ih0 _ _ _ _ _ _ _)
   | (with_reducible exact ih1 _ _ _ _ _ _)
   | (with_reducible exact ih2 _ _ _ _ _)
   | (with_reducible exact rule_First.mono _ _ _ _ _ _ _)
   | (with_reducible exact tolllaw06_Asked.mono _ _ _ _ _ _)
   | (with_reducible exact tolllaw06_some.mono _ _)
   | (with_reducible exact LeO.refl _)
   | (with_reducible exact LeO.none _)
   | (with_reducible refine LeO.ite ?_ ?_)
   | (with_reducible refine LeO.bind ?_ (fun _ => ?_))
   | exact ih0 _ _ _ _ _ _ _
   | exact ih1 _ _ _ _ _ _
   | exact ih2 _ _ _ _ _
   | exact rule_First.mono _ _ _ _ _ _ _
   | exact tolllaw06_Asked.mono _ _ _ _ _ _
   | exact tolllaw06_some.mono _ _
   | exact LeO.none _
   | refine LeO.ite ?_ ?_
   | refine LeO.bind ?_ (fun _ => ?_)
  ·intro y0 y1 y2 y3 y4
   unfold tolllaw06_RuleTurns.j2
   repeat' first
   | (with_reducible exact ih0 _ _ _ _ _ _ _)
   | (with_reducible exact ih1 _ _ _ _ _ _)
   | (with_reducible exact ih2 _ _ _ _ _)
   | (with_reducible exact rule_First.mono _ _ _ _ _ _ _)
   | (with_reducible exact tolllaw06_Asked.mono _ _ _ _ _ _)
   | (with_reducible exact tolllaw06_some.mono _ _)
   | (with_reducible exact LeO.refl _)
   | (with_reducible exact LeO.none _)
   | (with_reducible refine LeO.ite ?_ ?_)
   | (with_reducible refine LeO.bind ?_ (fun _ => ?_))
   | exact ih0 _ _ _ _ _ _ _
   | exact ih1 _ _ _ _ _ _
   | exact ih2 _ _ _ _ _
   | exact rule_First.mono _ _ _ _ _ _ _
   | exact tolllaw06_Asked.mono _ _ _ _ _ _
   | exact tolllaw06_some.mono _ _
   | exact LeO.none _
   | refine LeO.ite ?_ ?_
   | refine LeO.bind ?_ (fun _ => ?_)
theorem tolllaw06_RuleTurns.mono : ∀ a0 a1 a2 a3 a4 a5 a6 k, LeO (tolllaw06_RuleTurns.f k a0 a1 a2 a3 a4 a5 a6) (tolllaw06_RuleTurns.f (k + 1) a0 a1 a2 a3 a4 a5 a6) := by
 intro a0 a1 a2 a3 a4 a5 a6 k
 obtain ⟨ih0, ih1, ih2⟩ := tolllaw06_RuleTurns.mono_l k
 unfold tolllaw06_RuleTurns.f
 repeat' first
   | (with_reducible exact ih0 _ _ _ _ _ _ _)
   | (with_reducible exact ih1 _ _ _ _ _ _)
   | (with_reducible exact ih2 _ _ _ _ _)
   | (with_reducible exact rule_First.mono _ _ _ _ _ _ _)
   | (with_reducible exact tolllaw06_Asked.mono _ _ _ _ _ _)
   | (with_reducible exact tolllaw06_some.mono _ _)
   | (with_reducible exact LeO.refl _)
   | (with_reducible exact LeO.none _)
   | (with_reducible refine LeO.ite ?_ ?_)
   | (with_reducible refine LeO.bind ?_ (fun _ => ?_))
   | exact ih0 _ _ _ _ _ _ _
   | exact ih1 _ _ _ _ _ _
   | exact ih2 _ _ _ _ _
   | exact rule_First.mono _ _ _ _ _ _ _
   | exact tolllaw06_Asked.mono _ _ _ _ _ _
   | exact tolllaw06_some.mono _ _
   | exact LeO.none _
   | refine LeO.ite ?_ ?_
   | refine LeO.bind ?_ (fun _ => ?_)
noncomputable def tolllaw06_RuleTurns.T6 : Bool × List (List Nat × List Nat) := (true, [([], []), ([], []), ([], []), ([1, 2], [1, 2]), ([0, 3], [0, 3]), ([], []), ([], []), ([5, 6], [5, 6]), ([4, 7, 4], [4, 7]), ([8, 8, 0, 1, 2, 3, 4, 5, 6, 7, 8], [8])])
noncomputable def tolllaw06_RuleTurns.B6 : List Nat := [0, 0, 0, 6, 15, 0, 0, 96, 255, 511]
theorem tolllaw06_RuleTurns.tab6 : rtab .any (opsOf Tryd.f8 6) = tolllaw06_RuleTurns.T6 := by kernel_rfl
theorem tolllaw06_RuleTurns.bits6 : waitsOk tolllaw06_RuleTurns.T6.2 tolllaw06_RuleTurns.B6 = true := by kernel_rfl
noncomputable def tolllaw06_RuleTurns.T8 : Bool × List (List Nat × List Nat) := (true, [([], []), ([], []), ([0, 1], [0, 1]), ([], []), ([2, 3, 2], [2, 3]), ([], []), ([4, 5, 4], [4, 5]), ([6], [6]), ([7], [7]), ([7], [7]), ([8, 6, 0, 1, 2, 3, 4, 5, 6, 7, 8], [8]), ([9, 10, 0, 1, 2, 3, 4, 5, 6, 7, 8, 9, 10], [9])])
noncomputable def tolllaw06_RuleTurns.B8 : List Nat := [0, 0, 3, 0, 15, 0, 63, 127, 255, 255, 511, 2047]
theorem tolllaw06_RuleTurns.tab8 : rtab .any (opsOf Tryd.f8 8) = tolllaw06_RuleTurns.T8 := by kernel_rfl
theorem tolllaw06_RuleTurns.bits8 : waitsOk tolllaw06_RuleTurns.T8.2 tolllaw06_RuleTurns.B8 = true := by kernel_rfl
noncomputable def tolllaw06_RuleTurns.T15 : Bool × List (List Nat × List Nat) := (true, [([], []), ([], []), ([0, 1], [0, 1]), ([2], [2]), ([], []), ([], []), ([4, 5], [4, 5]), ([6], [6]), ([3, 7], [3, 7]), ([8], [8]), ([9, 8], [9]), ([10, 10], [10]), ([10, 11], [10, 11]), ([12, 11, 0, 1, 2, 3, 4, 5, 6, 7, 8, 9, 10, 11, 12], [12])])
noncomputable def tolllaw06_RuleTurns.B15 : List Nat := [0, 0, 3, 7, 0, 0, 48, 112, 255, 511, 1023, 2047, 4095, 8191]
theorem tolllaw06_RuleTurns.tab15 : rtab .any (opsOf Tryd.f8 15) = tolllaw06_RuleTurns.T15 := by kernel_rfl
theorem tolllaw06_RuleTurns.bits15 : waitsOk tolllaw06_RuleTurns.T15.2 tolllaw06_RuleTurns.B15 = true := by kernel_rfl
set_option maxHeartbeats 40000000 in
set_option maxRecDepth 100000 in
theorem tolllaw06_RuleTurns.calls (k : Nat) (A0 : Option Addr) (c0 : Nat) (l0 : List (S26)) (a1_0 : ByteArray) (a1_1 : ByteArray) (a1_2 : ByteArray) (A1_3 : Option Addr) (c1_3 : Nat) (l1_3 : List (S49)) (A1_4 : Option Addr) (c1_4 : Nat) (l1_4 : List (S49)) (a2 : Int) (r : Bool) (w : World) (hr0 : Kd.C k26 w A0 l0.length l0) (hc0 : l0.length ≤ c0) (hr1_3 : Kd.C k49 w A1_3 l1_3.length l1_3) (hc1_3 : l1_3.length ≤ c1_3) (hr1_4 : Kd.C k49 w A1_4 l1_4.length l1_4) (hc1_4 : l1_4.length ≤ c1_4) (h : tolllaw06_RuleTurns.f k l0 a1_0 a1_1 a1_2 l1_3 l1_4 a2 = some r) :
  Calls Tryd.prog 8 #[.slice A0 l0.length c0, .agg #[.string a1_0, .string a1_1, .string a1_2, .slice A1_3 l1_3.length c1_3, .slice A1_4 l1_4.length c1_4], .int .u8 a2] w fun e w' => e = .returned (.bool r) ∧ Below w.heap.size w w' := by
 have hu28 := Tryd.underlying28
 have hu26 := Tryd.underlying26
 have HR0 := Aside0.mk hr0
 have HC0 := Aside0.mk hc0
 clear hr0 hc0
 have HR1_3 := Aside0.mk hr1_3
 have HC1_3 := Aside0.mk hc1_3
 clear hr1_3 hc1_3
 have HR1_4 := Aside0.mk hr1_4
 have HC1_4 := Aside0.mk hc1_4
 clear hr1_4 hc1_4
 have HB := am_ (Below.refl w.heap.size w)
 have H : ((tolllaw06_some.f k l0).bind fun t943 => ((tolllaw06_Asked.f k a1_0 a1_1 a1_2 l1_3 l1_4).bind fun bt946 => (tolllaw06_RuleTurns.j0 k t943 a2 bt946.1 bt946.2.1 bt946.2.2.1 bt946.2.2.2.1 bt946.2.2.2.2))) = some r := h
 clear h
 have HC4 := Aside0.mk H
 clear H
 go_enter Tryd.func8, Tryd.ntmps8
 go_upto_region 1 with (first | ((with_reducible refine gate_dst (N := 4) rfl ?_); (try (refine gate_guard (by rfl) ?_; dsimp only)); refine box_event ?hg (N := 4) ?hd (cs := #[.string a1_0, .string a1_1, .string a1_2, .slice A1_3 l1_3.length c1_3, .slice A1_4 l1_4.length c1_4]) (t := 28) ?hr ?_; (case hd => rfl); (case hg => rfl); (case hr => first | (go_simp; done) | (go_simp; rfl)); intro gb942 hg w5 hbox hb; have n0_ := am_ (below_step (bel_ HB.out) hb); have n1_ := am_ (hbox); have n2_ := am_ ((by rw [hg]; exact (below_size (bel_ HB.out)) : w.heap.size ≤ gb942)); have n3_ := am_ ((by rw [hg]; exact (below_size (bel_ HB.out)) : w.heap.size ≤ gb942)); clear HB; have HB := n0_; have BK942 := n1_; have GW942 := n2_; have GE942 := n3_; clear n0_ n1_ n2_ n3_ hb hbox hg))
 (try simp only [Act.put, List.setIfInBounds_toArray, List.set_cons_zero, List.set_cons_succ])
 go_cut [0] (fun v0 wc => ∃ (kq : Nat) (x0_3 : List (S26)) (x943000_3 : ByteArray) (x943001_3 : ByteArray) (x943002_3 : ByteArray) (x943003_3 : List (S49)) (x943004_3 : List (S49)) (u943003 : Value) (u943004 : Value), Aside0 (tolllaw06_RuleTurns.j0 kq x0_3 a2 x943000_3 x943001_3 x943002_3 x943003_3 x943004_3 = some r) ∧ Aside0 (kq ≤ k) ∧ Aside0 (Kd.N k26 26 wc w.heap.size (fun k_ => some k_ ≠ (u943003 : Value).ownBlock ∧ some k_ ≠ (u943004 : Value).ownBlock ∧ k_ ≠ gb942) v0 x0_3) ∧ Aside0 (Kd.R k49 49 wc w.heap.size (fun k_ => some k_ ≠ (u943004 : Value).ownBlock) u943003 x943003_3) ∧ Aside0 (Kd.R k49 49 wc w.heap.size (fun k_ => some k_ ≠ (u943003 : Value).ownBlock) u943004 x943004_3) ∧ Aside0 (wc.heap[gb942]? = some (.cells #[.string x943000_3, .string x943001_3, .string x943002_3, u943003, u943004] 28 (0, 0))) ∧ Aside0 (Below w.heap.size w wc))
 case first =>
  have H := HC4.out
  clear HC4
  replace H := Option.bind_eq_some_iff.mp H
  obtain ⟨t943, A60, H⟩ := H
  replace H : ((tolllaw06_Asked.f k a1_0 a1_1 a1_2 l1_3 l1_4).bind fun bt946 => (tolllaw06_RuleTurns.j0 k t943 a2 bt946.1 bt946.2.1 bt946.2.2.1 bt946.2.2.2.1 bt946.2.2.2.2)) = some r := H
  have A6 := Aside0.mk A60
  clear A60
  replace H := Option.bind_eq_some_iff.mp H
  obtain ⟨⟨t946, t947, t948, t949, t952⟩, A70, H⟩ := H
  replace H : (tolllaw06_RuleTurns.j0 k t943 a2 t946 t947 t948 t949 t952) = some r := H
  have A7 := Aside0.mk A70
  clear A70
  have H' := Aside0.mk H
  clear H
  try go_wp2
  have n0_ := am_ (blk_drew BK942.out)
  have n1_ := am_ (below_drew1 HB.out)
  clear BK942 HB
  have BK942 := n0_
  have HB := n1_
  clear n0_ n1_
  refine start_ (n := 6) (S := fun w' => w'.cell? ⟨gb942, 0, none⟩ = some (.string a1_0) ∧ w'.cell? ⟨gb942, 1, none⟩ = some (.string a1_1) ∧ w'.cell? ⟨gb942, 2, none⟩ = some (.string a1_2) ∧ w'.cell? ⟨gb942, 3, none⟩ = some (.slice A1_3 l1_3.length c1_3) ∧ w'.cell? ⟨gb942, 4, none⟩ = some (.slice A1_4 l1_4.length c1_4)) (ds := [5]) #[false, false, false, false, false, false] kr_ rfl rfl ⟨(blk_cell BK942.out 0).trans rfl, (blk_cell BK942.out 1).trans rfl, (blk_cell BK942.out 2).trans rfl, (blk_cell BK942.out 3).trans rfl, (blk_cell BK942.out 4).trans rfl⟩ (fun hHeld => ?_)
  generalize w5.drew = w8 at BK942 HB hHeld ⊢
  refine pure_ (i := 0) (N := some 15) (v := ?_) (a' := ?_) #[true, false, false, false, false, false] rfl rfl kr_ (fun _ _ _ h => h) (Or.inl ⟨by rfl, ?_⟩) ?_ ?_
  rotate_left
  ·intro w'
   go_simp
   with_reducible rfl
  rotate_left
  ·simp only [Act.put, sx_, s0_, s1_, i64_w, i32_w]
   rfl
  refine take_ (i := 2) (N := some 17) (v := ?_) (a' := ?_) #[true, false, true, false, false, false] rfl rfl kr_ (fun _ _ _ h => h) (Or.inl ⟨by rfl, ?_⟩) hHeld ?_ ?_
  rotate_left
  ·rintro w' ⟨s0, s1, s2, s3, s4⟩
   go_simp
   with_reducible rfl
  rotate_left
  ·simp only [Act.put, sx_, s0_, s1_, i64_w, i32_w]
   rfl
  refine one_ (i := 1) (N := some 16) #[true, true, true, false, false, false] rfl rfl kr_ (by decide) (fun K hK => ?_)
  refine goes_ Tryd.func20 kr_ rfl #[.slice A0 l0.length c0] (by rfl) rfl rfl rl_ ?_
  with_reducible refine (tolllaw06_some.calls k _ _ l0 t943 _ ?side1 ?side2 A6.out).mono ?_
  (case side1 => exact C_ (Kd.C_below HR0.out HB.out))
  (case side2 => exact HC0.out)
  rintro e w9 ⟨v944, rfl, ho0, hb⟩
  refine ⟨_, rfl, ?_⟩
  have n0_ := am_ (Kd.N_lower (Kd.N_mono (ok' := fun k_ => k_ ≠ gb942) (Kd.S_N (Kd.S_bound ho0)) (fun k_ hk_ => (Kd.freshB (g := gb942) (o := .cells #[.string a1_0, .string a1_1, .string a1_2, .slice A1_3 l1_3.length c1_3, .slice A1_4 l1_4.length c1_4] 28 (0, 0)) (blk_ BK942.out) k_ hk_.2.1))) (below_size (bel_ HB.out)))
  have n1_ := am_ (blk_below (g := gb942) (o := .cells #[.string a1_0, .string a1_1, .string a1_2, .slice A1_3 l1_3.length c1_3, .slice A1_4 l1_4.length c1_4] 28 (0, 0)) (blk_ BK942.out) hb)
  have n2_ := am_ (below_step (bel_ HB.out) hb)
  clear BK942 HB
  have HO945 := n0_
  have BK942 := n1_
  have HB := n2_
  clear n0_ n1_ n2_
  (try clear hb)
  (try clear hb2)
  (try clear hk)
  (try clear hi)
  (try clear ho0)
  refine hK.out _ _ ⟨(blk_cell BK942.out 0).trans rfl, (blk_cell BK942.out 1).trans rfl, (blk_cell BK942.out 2).trans rfl, (blk_cell BK942.out 3).trans rfl, (blk_cell BK942.out 4).trans rfl⟩ (fun hHeld => ?_)
  clear hK K
  refine norm_ (a' := ?_) ?_ ?_
  rotate_left
  ·show Act.put _ (some 16) _ = _
   simp only [Act.put, sx_, s0_, s1_, i64_w, i32_w]
   rfl
  refine one_ (i := 3) (N := some 18) #[true, true, true, true, false, false] rfl rfl kr_ (by decide) (fun K hK => ?_)
  refine goes_ Tryd.func10 kr_ rfl #[.agg #[.string a1_0, .string a1_1, .string a1_2, .slice A1_3 l1_3.length c1_3, .slice A1_4 l1_4.length c1_4]] (by rfl) rfl rfl rl_ ?_
  with_reducible refine (tolllaw06_Asked.calls k a1_0 a1_1 a1_2 _ _ l1_3 _ _ l1_4 t946 t947 t948 t949 t952 _ ?side1 ?side2 ?side3 ?side4 A7.out).mono ?_
  (case side1 => exact C_ (Kd.C_below HR1_3.out HB.out))
  (case side2 => exact HC1_3.out)
  (case side3 => exact C_ (Kd.C_below HR1_4.out HB.out))
  (case side4 => exact HC1_4.out)
  rintro e w10 ⟨v950, v953, rfl, ho0, ho1, hb⟩
  refine ⟨_, rfl, ?_⟩
  have n0_ := am_ (Kd.N_mono (Kd.N_told (Kd.N_told (Kd.N_old (N_ HO945.out) hb) (Kd.R_base ho0)) (Kd.R_base ho1)) (fun _ h_ => h_.1))
  have n1_ := am_ (Kd.R_lower ho0 (below_size (bel_ HB.out)))
  have n2_ := am_ (Kd.R_lower ho1 (below_size (bel_ HB.out)))
  have n3_ := am_ (blk_below (g := gb942) (o := .cells #[.string a1_0, .string a1_1, .string a1_2, .slice A1_3 l1_3.length c1_3, .slice A1_4 l1_4.length c1_4] 28 (0, 0)) (blk_ BK942.out) hb)
  have n4_ := am_ (below_step (bel_ HB.out) hb)
  clear HO945 BK942 HB
  have HO945 := n0_
  have HO951 := n1_
  have HO954 := n2_
  have BK942 := n3_
  have HB := n4_
  clear n0_ n1_ n2_ n3_ n4_
  (try clear hb)
  (try clear hb2)
  (try clear hk)
  (try clear hi)
  (try clear ho0)
  (try clear ho1)
  obtain ⟨Ao14, co14, eo14⟩ := Kd.R_slice HO951.out
  (first | subst eo14 | (injection eo14 with f1_ f2_ f3_; have f4_ := f1_.symm; have f5_ := f3_.symm; clear f1_ f2_ f3_; subst f4_; subst f5_))
  obtain ⟨Ao16, co16, eo16⟩ := Kd.R_slice HO954.out
  (first | subst eo16 | (injection eo16 with f1_ f2_ f3_; have f4_ := f1_.symm; have f5_ := f3_.symm; clear f1_ f2_ f3_; subst f4_; subst f5_))
  refine hK.out _ _ ⟨(blk_cell BK942.out 0).trans rfl, (blk_cell BK942.out 1).trans rfl, (blk_cell BK942.out 2).trans rfl, (blk_cell BK942.out 3).trans rfl, (blk_cell BK942.out 4).trans rfl⟩ (fun hHeld => ?_)
  clear hK K
  refine norm_ (a' := ?_) ?_ ?_
  rotate_left
  ·show Act.put _ (some 18) _ = _
   simp only [Act.put, sx_, s0_, s1_, i64_w, i32_w]
   rfl
  refine pure_ (i := 4) (N := some 0) (v := ?_) (a' := ?_) #[true, true, true, true, true, false] rfl rfl kr_ (fun _ _ _ h => h) (Or.inl ⟨by rfl, ?_⟩) ?_ ?_
  rotate_left
  ·intro w'
   go_simp
   with_reducible rfl
  rotate_left
  ·simp only [Act.put, sx_, s0_, s1_, i64_w, i32_w]
   rfl
  refine last_ (i := 5) (N := none) #[true, true, true, true, true, true] rfl rfl kr_ (by decide) (fun K hK => ?_)
  have hs11 : w10.cell? ⟨gb942, 0, none⟩ = some (.string a1_0) := (blk_cell BK942.out 0).trans rfl
  have hfs11 := blk_frozen BK942.out 0
  have hs12 : w10.cell? ⟨gb942, 1, none⟩ = some (.string a1_1) := (blk_cell BK942.out 1).trans rfl
  have hfs12 := blk_frozen BK942.out 1
  have hs13 : w10.cell? ⟨gb942, 2, none⟩ = some (.string a1_2) := (blk_cell BK942.out 2).trans rfl
  have hfs13 := blk_frozen BK942.out 2
  have hs15 : w10.cell? ⟨gb942, 3, none⟩ = some (.slice A1_3 l1_3.length c1_3) := (blk_cell BK942.out 3).trans rfl
  have hfs15 := blk_frozen BK942.out 3
  have hs17 : w10.cell? ⟨gb942, 4, none⟩ = some (.slice A1_4 l1_4.length c1_4) := (blk_cell BK942.out 4).trans rfl
  have hfs17 := blk_frozen BK942.out 4
  refine skip_ (w1 := ?_) (by rfl) rfl ?_ ?_
  rotate_left
  ·go_simp
   rfl
  refine hK.out _ _ ?_
  clear hK K
  refine done_ kr_ ?_
  try go_wp2
  go_meet
  case rel => exact ⟨_, (t943), (t946), (t947), (t948), (t949), (t952), (.slice Ao14 t949.length co14), (.slice Ao16 t952.length co16), H', ⟨by first | omega | exact Nat.le_refl _⟩, ⟨by (with_reducible repeat (first | apply Kd.N_alloc | apply Kd.N_drewN | apply Kd.N_drew)); exact Kd.N_mono (Kd.N_far (p := ⟨gb942, 4, none⟩) (Kd.N_far (p := ⟨gb942, 3, none⟩) (Kd.N_far (p := ⟨gb942, 2, none⟩) (Kd.N_far (p := ⟨gb942, 1, none⟩) (Kd.N_far (p := ⟨gb942, 0, none⟩) (Kd.N_mono HO945.out (fun k_ hk => (⟨hk, hk.1.1⟩ : _ ∧ k_ ≠ gb942))) (fun _ hk => hk.2) (.string t946)) (fun _ hk => hk.2) (.string t947)) (fun _ hk => hk.2) (.string t948)) (fun _ hk => hk.2) (.slice Ao14 t949.length co14)) (fun _ hk => hk.2) (.slice Ao16 t952.length co16)) (fun _ hk => ⟨hk.1.1.2, ⟨hk.1.2, hk.1.1.1⟩⟩)⟩, ⟨by (with_reducible repeat (first | apply Kd.R_alloc | apply Kd.R_drewN | apply Kd.R_drew)); exact Kd.R_mono (Kd.R_far (p := ⟨gb942, 4, none⟩) (Kd.R_far (p := ⟨gb942, 3, none⟩) (Kd.R_far (p := ⟨gb942, 2, none⟩) (Kd.R_far (p := ⟨gb942, 1, none⟩) (Kd.R_far (p := ⟨gb942, 0, none⟩) (Kd.R_types HO951.out BK942.out (by decide)) (fun _ hk => hk.2) (.string t946)) (fun _ hk => hk.2) (.string t947)) (fun _ hk => hk.2) (.string t948)) (fun _ hk => hk.2) (.slice Ao14 t949.length co14)) (fun _ hk => hk.2) (.slice Ao16 t952.length co16)) (fun _ hk => hk.1)⟩, ⟨by (with_reducible repeat (first | apply Kd.R_alloc | apply Kd.R_drewN | apply Kd.R_drew)); exact Kd.R_mono (Kd.R_far (p := ⟨gb942, 4, none⟩) (Kd.R_far (p := ⟨gb942, 3, none⟩) (Kd.R_far (p := ⟨gb942, 2, none⟩) (Kd.R_far (p := ⟨gb942, 1, none⟩) (Kd.R_far (p := ⟨gb942, 0, none⟩) (Kd.R_types HO954.out BK942.out (by decide)) (fun _ hk => hk.2) (.string t946)) (fun _ hk => hk.2) (.string t947)) (fun _ hk => hk.2) (.string t948)) (fun _ hk => hk.2) (.slice Ao14 t949.length co14)) (fun _ hk => hk.2) (.slice Ao16 t952.length co16)) (fun _ hk => hk.1)⟩, ⟨by (with_reducible repeat (first | refine blk_drewN ?_ _ | refine blk_drew ?_ | refine blk_alloc ?_ _)); refine blk_put (cs := #[.string t946, .string t947, .string t948, .slice Ao14 t949.length co14, .slice A1_4 l1_4.length c1_4]) ?_ 4 _ rfl; (with_reducible repeat (first | refine blk_drewN ?_ _ | refine blk_drew ?_ | refine blk_alloc ?_ _)); refine blk_put (cs := #[.string t946, .string t947, .string t948, .slice A1_3 l1_3.length c1_3, .slice A1_4 l1_4.length c1_4]) ?_ 3 _ rfl; (with_reducible repeat (first | refine blk_drewN ?_ _ | refine blk_drew ?_ | refine blk_alloc ?_ _)); refine blk_put (cs := #[.string t946, .string t947, .string a1_2, .slice A1_3 l1_3.length c1_3, .slice A1_4 l1_4.length c1_4]) ?_ 2 _ rfl; (with_reducible repeat (first | refine blk_drewN ?_ _ | refine blk_drew ?_ | refine blk_alloc ?_ _)); refine blk_put (cs := #[.string t946, .string a1_1, .string a1_2, .slice A1_3 l1_3.length c1_3, .slice A1_4 l1_4.length c1_4]) ?_ 1 _ rfl; (with_reducible repeat (first | refine blk_drewN ?_ _ | refine blk_drew ?_ | refine blk_alloc ?_ _)); refine blk_put (cs := #[.string a1_0, .string a1_1, .string a1_2, .slice A1_3 l1_3.length c1_3, .slice A1_4 l1_4.length c1_4]) ?_ 0 _ rfl; (with_reducible repeat (first | refine blk_drewN ?_ _ | refine blk_drew ?_ | refine blk_alloc ?_ _)); exact BK942.out⟩, ⟨bel_ HB.out⟩⟩
 case rest =>
  clear HC4
  try clear c1
  try clear c2
  try clear p2
  try clear c8
  try clear c10
  obtain ⟨kq, x0_3, x943000_3, x943001_3, x943002_3, x943003_3, x943004_3, u943003, u943004, HA, HJ3, HO_0, HO_943003, HO_943004, BK942, HB⟩ := hcut
  cases kq with
  | zero => exact absurd HA.out (by simp [tolllaw06_RuleTurns.j0])
  | succ kj3 =>
   have H := HA.out
   clear HA
   simp only [tolllaw06_RuleTurns.j0] at H
   replace H := Option.bind_eq_some_iff.mp H
   obtain ⟨⟨t955, t956⟩, A180, H⟩ := H
   replace H : (if (x0_3.length : Int) = 0 then (if t956 = true then (none) else ((tolllaw06_awake.f).bind fun t957 => (some t957))) else ((some (([] : List (S26)) : List (S26))).bind fun y958 => (if 0 ≤ (Int.tmod (wrap64 (a2)) (x0_3.length : Int)) then (if (Int.tmod (wrap64 (a2)) (x0_3.length : Int)) ≤ (x0_3.length : Int) then ((some (x0_3.drop ((Int.tmod (wrap64 (a2)) (x0_3.length : Int)) : Int).toNat : List (S26))).bind fun y961 => (if y958.length + y961.length < 1599289640401 then ((some (y958 ++ y961 : List (S26))).bind fun y966 => ((some (x0_3.take ((Int.tmod (wrap64 (a2)) (x0_3.length : Int)) : Int).toNat : List (S26))).bind fun y969 => (if y966.length + y969.length < 1599289640401 then ((some (y966 ++ y969 : List (S26))).bind fun y974 => ((rule_First.f kj3 y974 x943000_3 x943001_3 x943002_3 x943003_3 x943004_3).bind fun bt977 => ((some (([] : List (S26)) : List (S26))).bind fun y979 => (if y979.length + x0_3.length < 1599289640401 then ((some (y979 ++ x0_3 : List (S26))).bind fun y982 => (if y982.length + x0_3.length < 1599289640401 then ((rule_First.f kj3 (y982 ++ x0_3) x943000_3 x943001_3 x943002_3 x943003_3 x943004_3).bind fun bt988 => (if (t956 != bt977.2) = true then (none) else (if (t956 != bt988.2) = true then (none) else (tolllaw06_RuleTurns.j1 kj3 x0_3 t955 t956 y974 bt977.1 (bt988.1 != t955))))) else (none))) else (none))))) else (none)))) else (none))) else (none)) else (none)))) = some r := H
   have A18 := Aside0.mk A180
   clear A180
   by_cases c19 : (x0_3.length : Int) = 0
   ·rw [if_pos c19] at H
    have c19b0 : ((x0_3.length : Int) == 0) = true := beq_iff_eq.mpr c19
    have c19b1 : ((x0_3.length : Int) != 0) = false := bne_eq_false_iff_eq.mpr c19
    clear c19
    by_cases c20 : t956 = true
    ·subst c20
     have H1 : (none) = some r := by rw [if_pos rfl] at H; exact H
     clear H
     have H := H1
     clear H1
     exact absurd H (by simp)
    ·replace c20 := Bool.eq_false_iff.mpr c20
     subst c20
     have H1 : ((tolllaw06_awake.f).bind fun t957 => (some t957)) = some r := by rw [if_neg (show ¬ (false = true) by decide)] at H; exact H
     clear H
     have H := H1
     clear H1
     replace H := Option.bind_eq_some_iff.mp H
     obtain ⟨t957, A210, H⟩ := H
     replace H : (some t957) = some r := H
     have A21 := Aside0.mk A210
     clear A210
     obtain rfl := Option.some.inj H
     have hcz22_0 : wc.cell? ⟨gb942, 0, none⟩ = some (.string x943000_3) := (blk_cell BK942.out 0).trans rfl
     have hcz22_1 : wc.cell? ⟨gb942, 1, none⟩ = some (.string x943001_3) := (blk_cell BK942.out 1).trans rfl
     have hcz22_2 : wc.cell? ⟨gb942, 2, none⟩ = some (.string x943002_3) := (blk_cell BK942.out 2).trans rfl
     have hcz22_3 : wc.cell? ⟨gb942, 3, none⟩ = some (u943003) := (blk_cell BK942.out 3).trans rfl
     have hcz22_4 : wc.cell? ⟨gb942, 4, none⟩ = some (u943004) := (blk_cell BK942.out 4).trans rfl
     have hfz22_0 := blk_frozen BK942.out 0
     have hfz22_1 := blk_frozen BK942.out 1
     have hfz22_2 := blk_frozen BK942.out 2
     have hfz22_3 := blk_frozen BK942.out 3
     have hfz22_4 := blk_frozen BK942.out 4
     obtain ⟨Ao23, co23, eo23⟩ := Kd.N_slice HO_0.out
     subst eo23
     obtain ⟨Ao24, co24, eo24⟩ := Kd.R_slice HO_943003.out
     subst eo24
     obtain ⟨Ao25, co25, eo25⟩ := Kd.R_slice HO_943004.out
     subst eo25
     go_wp2_with (first | ((with_reducible refine gate_callee (f := 21) rfl ?_); refine goesL_ (some 22) rfl rfl Tryd.func21 kr_ rfl #[.slice Ao23 x0_3.length co23, .agg #[.string x943000_3, .string x943001_3, .string x943002_3, .slice Ao24 x943003_3.length co24, .slice Ao25 x943004_3.length co25]] rfl rl_ ?_; (with_reducible refine (rule_First.calls kj3 _ _ x0_3 x943000_3 x943001_3 x943002_3 _ _ x943003_3 _ _ x943004_3 t955 false _ ?side1 ?side2 ?side3 ?side4 ?side5 ?side6 A18.out).mono ?_); (case side1 => exact C_ (Kd.N_reads' HO_0.out).2.2); (case side2 => exact (Kd.N_reads' HO_0.out).2.1); (case side3 => exact C_ (Kd.R_reads' HO_943003.out).2.2); (case side4 => exact (Kd.R_reads' HO_943003.out).2.1); (case side5 => exact C_ (Kd.R_reads' HO_943004.out).2.2); (case side6 => exact (Kd.R_reads' HO_943004.out).2.1); rintro e w26 ⟨rfl, hb⟩; refine ⟨_, rfl, ?_⟩; have n0_ := am_ (Kd.N_below (N_ HO_0.out) hb); have n1_ := am_ (Kd.R_below (R_ HO_943003.out) hb); have n2_ := am_ (Kd.R_below (R_ HO_943004.out) hb); have n3_ := am_ (blk_below (g := gb942) (o := .cells #[.string x943000_3, .string x943001_3, .string x943002_3, .slice Ao24 x943003_3.length co24, .slice Ao25 x943004_3.length co25] 28 (0, 0)) (blk_ BK942.out) hb); have n4_ := am_ (below_step (bel_ HB.out) hb); clear HO_0 HO_943003 HO_943004 BK942 HB; have HO_0 := n0_; have HO_943003 := n1_; have HO_943004 := n2_; have BK942 := n3_; have HB := n4_; clear n0_ n1_ n2_ n3_ n4_; (try clear hb); (try clear hb2); (try clear hk); (try clear hi)) | (go_at_call 18; (with_reducible refine (tolllaw06_awake.calls  t957 _ A21.out).mono ?_); rintro e w27 ⟨rfl, hb⟩; have n0_ := am_ (Kd.N_below (N_ HO_0.out) hb); have n1_ := am_ (Kd.R_below (R_ HO_943003.out) hb); have n2_ := am_ (Kd.R_below (R_ HO_943004.out) hb); have n3_ := am_ (blk_below (g := gb942) (o := .cells #[.string x943000_3, .string x943001_3, .string x943002_3, .slice Ao24 x943003_3.length co24, .slice Ao25 x943004_3.length co25] 28 (0, 0)) (blk_ BK942.out) hb); have n4_ := am_ (below_step (bel_ HB.out) hb); clear HO_0 HO_943003 HO_943004 BK942 HB; have HO_0 := n0_; have HO_943003 := n1_; have HO_943004 := n2_; have BK942 := n3_; have HB := n4_; clear n0_ n1_ n2_ n3_ n4_; (try clear hb); (try clear hb2); (try clear hk); (try clear hi)))
     go_ret
     exact ⟨fi_, bel_ HB.out⟩
   ·rw [if_neg c19] at H
    have c19b0 : ((x0_3.length : Int) == 0) = false := beq_eq_false_iff_ne.mpr c19
    have c19b1 : ((x0_3.length : Int) != 0) = true := bne_iff_ne.mpr c19
    have c19b2 : ¬ (x0_3 = []) := fun h_ => c19 (by rw [h_]; rfl)
    obtain ⟨y958, hy958⟩ : ∃ y_ : List (S26), y_ = (([] : List (S26))) := ⟨_, rfl⟩
    replace H : (if 0 ≤ (Int.tmod (wrap64 (a2)) (x0_3.length : Int)) then (if (Int.tmod (wrap64 (a2)) (x0_3.length : Int)) ≤ (x0_3.length : Int) then ((some (x0_3.drop ((Int.tmod (wrap64 (a2)) (x0_3.length : Int)) : Int).toNat : List (S26))).bind fun y961 => (if y958.length + y961.length < 1599289640401 then ((some (y958 ++ y961 : List (S26))).bind fun y966 => ((some (x0_3.take ((Int.tmod (wrap64 (a2)) (x0_3.length : Int)) : Int).toNat : List (S26))).bind fun y969 => (if y966.length + y969.length < 1599289640401 then ((some (y966 ++ y969 : List (S26))).bind fun y974 => ((rule_First.f kj3 y974 x943000_3 x943001_3 x943002_3 x943003_3 x943004_3).bind fun bt977 => ((some (([] : List (S26)) : List (S26))).bind fun y979 => (if y979.length + x0_3.length < 1599289640401 then ((some (y979 ++ x0_3 : List (S26))).bind fun y982 => (if y982.length + x0_3.length < 1599289640401 then ((rule_First.f kj3 (y982 ++ x0_3) x943000_3 x943001_3 x943002_3 x943003_3 x943004_3).bind fun bt988 => (if (t956 != bt977.2) = true then (none) else (if (t956 != bt988.2) = true then (none) else (tolllaw06_RuleTurns.j1 kj3 x0_3 t955 t956 y974 bt977.1 (bt988.1 != t955))))) else (none))) else (none))))) else (none)))) else (none))) else (none)) else (none)) = some r := by first | (rw [hy958]; with_reducible exact H) | (have H2_ := (Option.bind_some _ _).symm.trans H; rw [hy958]; with_reducible exact H2_) | (have H2_ := (Option.bind_some _ _).symm.trans H; with_reducible exact H2_) | with_reducible exact H | (rw [hy958]; exact H) | exact H
    have Ny958 := Aside0.mk hy958
    clear hy958
    obtain ⟨ji28, hji28⟩ : ∃ j_ : Int, (Int.tmod (wrap64 (a2)) (x0_3.length : Int)) = j_ := ⟨_, rfl⟩
    replace H : (if 0 ≤ (ji28) then (if (ji28) ≤ (x0_3.length : Int) then ((some (x0_3.drop ((ji28) : Int).toNat : List (S26))).bind fun y961 => (if y958.length + y961.length < 1599289640401 then ((some (y958 ++ y961 : List (S26))).bind fun y966 => ((some (x0_3.take ((ji28) : Int).toNat : List (S26))).bind fun y969 => (if y966.length + y969.length < 1599289640401 then ((some (y966 ++ y969 : List (S26))).bind fun y974 => ((rule_First.f kj3 y974 x943000_3 x943001_3 x943002_3 x943003_3 x943004_3).bind fun bt977 => ((some (([] : List (S26)) : List (S26))).bind fun y979 => (if y979.length + x0_3.length < 1599289640401 then ((some (y979 ++ x0_3 : List (S26))).bind fun y982 => (if y982.length + x0_3.length < 1599289640401 then ((rule_First.f kj3 (y982 ++ x0_3) x943000_3 x943001_3 x943002_3 x943003_3 x943004_3).bind fun bt988 => (if (t956 != bt977.2) = true then (none) else (if (t956 != bt988.2) = true then (none) else (tolllaw06_RuleTurns.j1 kj3 x0_3 t955 t956 y974 bt977.1 (bt988.1 != t955))))) else (none))) else (none))))) else (none)))) else (none))) else (none)) else (none)) = some r := by first | (rw [hji28] at H; exact H) | (simp only [hji28] at H ⊢; exact H)
    (try rw [hji28] at A18)
    by_cases c29 : 0 ≤ (ji28)
    ·rw [if_pos c29] at H
     have c29b0 := eq_true c29
     have c29b1 : decide (0 ≤ (ji28)) = true := decide_eq_true c29
     clear c29
     by_cases c30 : (ji28) ≤ (x0_3.length : Int)
     ·rw [if_pos c30] at H
      have c30b0 := eq_true c30
      have c30b1 : decide ((ji28) ≤ (x0_3.length : Int)) = true := decide_eq_true c30
      clear c30
      obtain ⟨y961, hy961⟩ : ∃ y_ : List (S26), y_ = (x0_3.drop ((ji28) : Int).toNat) := ⟨_, rfl⟩
      replace H : (if y958.length + y961.length < 1599289640401 then ((some (y958 ++ y961 : List (S26))).bind fun y966 => ((some (x0_3.take ((ji28) : Int).toNat : List (S26))).bind fun y969 => (if y966.length + y969.length < 1599289640401 then ((some (y966 ++ y969 : List (S26))).bind fun y974 => ((rule_First.f kj3 y974 x943000_3 x943001_3 x943002_3 x943003_3 x943004_3).bind fun bt977 => ((some (([] : List (S26)) : List (S26))).bind fun y979 => (if y979.length + x0_3.length < 1599289640401 then ((some (y979 ++ x0_3 : List (S26))).bind fun y982 => (if y982.length + x0_3.length < 1599289640401 then ((rule_First.f kj3 (y982 ++ x0_3) x943000_3 x943001_3 x943002_3 x943003_3 x943004_3).bind fun bt988 => (if (t956 != bt977.2) = true then (none) else (if (t956 != bt988.2) = true then (none) else (tolllaw06_RuleTurns.j1 kj3 x0_3 t955 t956 y974 bt977.1 (bt988.1 != t955))))) else (none))) else (none))))) else (none)))) else (none)) = some r := by first | (rw [hy961]; with_reducible exact H) | (have H2_ := (Option.bind_some _ _).symm.trans H; rw [hy961]; with_reducible exact H2_) | (have H2_ := (Option.bind_some _ _).symm.trans H; with_reducible exact H2_) | with_reducible exact H | (rw [hy961]; exact H) | exact H
      have Ny961 := Aside0.mk hy961
      clear hy961
      by_cases c31 : y958.length + y961.length < 1599289640401
      ·rw [if_pos c31] at H
       have LMc31 := Aside0.mk c31
       clear c31
       obtain ⟨y966, hy966⟩ : ∃ y_ : List (S26), y_ = (y958 ++ y961) := ⟨_, rfl⟩
       replace H : ((some (x0_3.take ((ji28) : Int).toNat : List (S26))).bind fun y969 => (if y966.length + y969.length < 1599289640401 then ((some (y966 ++ y969 : List (S26))).bind fun y974 => ((rule_First.f kj3 y974 x943000_3 x943001_3 x943002_3 x943003_3 x943004_3).bind fun bt977 => ((some (([] : List (S26)) : List (S26))).bind fun y979 => (if y979.length + x0_3.length < 1599289640401 then ((some (y979 ++ x0_3 : List (S26))).bind fun y982 => (if y982.length + x0_3.length < 1599289640401 then ((rule_First.f kj3 (y982 ++ x0_3) x943000_3 x943001_3 x943002_3 x943003_3 x943004_3).bind fun bt988 => (if (t956 != bt977.2) = true then (none) else (if (t956 != bt988.2) = true then (none) else (tolllaw06_RuleTurns.j1 kj3 x0_3 t955 t956 y974 bt977.1 (bt988.1 != t955))))) else (none))) else (none))))) else (none))) = some r := by first | (rw [hy966]; with_reducible exact H) | (have H2_ := (Option.bind_some _ _).symm.trans H; rw [hy966]; with_reducible exact H2_) | (have H2_ := (Option.bind_some _ _).symm.trans H; with_reducible exact H2_) | with_reducible exact H | (rw [hy966]; exact H) | exact H
       have Ny966 := Aside0.mk hy966
       clear hy966
       have c32b0 := eq_true (of_decide_eq_true as_ : 0 ≤ (ji28))
       have c33b0 := eq_true (of_decide_eq_true as_ : (ji28) ≤ (x0_3.length : Int))
       obtain ⟨y969, hy969⟩ : ∃ y_ : List (S26), y_ = (x0_3.take ((ji28) : Int).toNat) := ⟨_, rfl⟩
       replace H : (if y966.length + y969.length < 1599289640401 then ((some (y966 ++ y969 : List (S26))).bind fun y974 => ((rule_First.f kj3 y974 x943000_3 x943001_3 x943002_3 x943003_3 x943004_3).bind fun bt977 => ((some (([] : List (S26)) : List (S26))).bind fun y979 => (if y979.length + x0_3.length < 1599289640401 then ((some (y979 ++ x0_3 : List (S26))).bind fun y982 => (if y982.length + x0_3.length < 1599289640401 then ((rule_First.f kj3 (y982 ++ x0_3) x943000_3 x943001_3 x943002_3 x943003_3 x943004_3).bind fun bt988 => (if (t956 != bt977.2) = true then (none) else (if (t956 != bt988.2) = true then (none) else (tolllaw06_RuleTurns.j1 kj3 x0_3 t955 t956 y974 bt977.1 (bt988.1 != t955))))) else (none))) else (none))))) else (none)) = some r := by first | (rw [hy969]; with_reducible exact H) | (have H2_ := (Option.bind_some _ _).symm.trans H; rw [hy969]; with_reducible exact H2_) | (have H2_ := (Option.bind_some _ _).symm.trans H; with_reducible exact H2_) | with_reducible exact H | (rw [hy969]; exact H) | exact H
       have Ny969 := Aside0.mk hy969
       clear hy969
       by_cases c34 : y966.length + y969.length < 1599289640401
       ·rw [if_pos c34] at H
        have LMc34 := Aside0.mk c34
        clear c34
        obtain ⟨y974, hy974⟩ : ∃ y_ : List (S26), y_ = (y966 ++ y969) := ⟨_, rfl⟩
        replace H : ((rule_First.f kj3 y974 x943000_3 x943001_3 x943002_3 x943003_3 x943004_3).bind fun bt977 => ((some (([] : List (S26)) : List (S26))).bind fun y979 => (if y979.length + x0_3.length < 1599289640401 then ((some (y979 ++ x0_3 : List (S26))).bind fun y982 => (if y982.length + x0_3.length < 1599289640401 then ((rule_First.f kj3 (y982 ++ x0_3) x943000_3 x943001_3 x943002_3 x943003_3 x943004_3).bind fun bt988 => (if (t956 != bt977.2) = true then (none) else (if (t956 != bt988.2) = true then (none) else (tolllaw06_RuleTurns.j1 kj3 x0_3 t955 t956 y974 bt977.1 (bt988.1 != t955))))) else (none))) else (none)))) = some r := by first | (rw [hy974]; with_reducible exact H) | (have H2_ := (Option.bind_some _ _).symm.trans H; rw [hy974]; with_reducible exact H2_) | (have H2_ := (Option.bind_some _ _).symm.trans H; with_reducible exact H2_) | with_reducible exact H | (rw [hy974]; exact H) | exact H
        have Ny974 := Aside0.mk hy974
        clear hy974
        replace H := Option.bind_eq_some_iff.mp H
        obtain ⟨⟨t977, t978⟩, A350, H⟩ := H
        replace H : ((some (([] : List (S26)) : List (S26))).bind fun y979 => (if y979.length + x0_3.length < 1599289640401 then ((some (y979 ++ x0_3 : List (S26))).bind fun y982 => (if y982.length + x0_3.length < 1599289640401 then ((rule_First.f kj3 (y982 ++ x0_3) x943000_3 x943001_3 x943002_3 x943003_3 x943004_3).bind fun bt988 => (if (t956 != t978) = true then (none) else (if (t956 != bt988.2) = true then (none) else (tolllaw06_RuleTurns.j1 kj3 x0_3 t955 t956 y974 t977 (bt988.1 != t955))))) else (none))) else (none))) = some r := H
        have A35 := Aside0.mk A350
        clear A350
        obtain ⟨y979, hy979⟩ : ∃ y_ : List (S26), y_ = (([] : List (S26))) := ⟨_, rfl⟩
        replace H : (if y979.length + x0_3.length < 1599289640401 then ((some (y979 ++ x0_3 : List (S26))).bind fun y982 => (if y982.length + x0_3.length < 1599289640401 then ((rule_First.f kj3 (y982 ++ x0_3) x943000_3 x943001_3 x943002_3 x943003_3 x943004_3).bind fun bt988 => (if (t956 != t978) = true then (none) else (if (t956 != bt988.2) = true then (none) else (tolllaw06_RuleTurns.j1 kj3 x0_3 t955 t956 y974 t977 (bt988.1 != t955))))) else (none))) else (none)) = some r := by first | (rw [hy979]; with_reducible exact H) | (have H2_ := (Option.bind_some _ _).symm.trans H; rw [hy979]; with_reducible exact H2_) | (have H2_ := (Option.bind_some _ _).symm.trans H; with_reducible exact H2_) | with_reducible exact H | (rw [hy979]; exact H) | exact H
        have Ny979 := Aside0.mk hy979
        clear hy979
        by_cases c36 : y979.length + x0_3.length < 1599289640401
        ·rw [if_pos c36] at H
         have LMc36 := Aside0.mk c36
         clear c36
         obtain ⟨y982, hy982⟩ : ∃ y_ : List (S26), y_ = (y979 ++ x0_3) := ⟨_, rfl⟩
         replace H : (if y982.length + x0_3.length < 1599289640401 then ((rule_First.f kj3 (y982 ++ x0_3) x943000_3 x943001_3 x943002_3 x943003_3 x943004_3).bind fun bt988 => (if (t956 != t978) = true then (none) else (if (t956 != bt988.2) = true then (none) else (tolllaw06_RuleTurns.j1 kj3 x0_3 t955 t956 y974 t977 (bt988.1 != t955))))) else (none)) = some r := by first | (rw [hy982]; with_reducible exact H) | (have H2_ := (Option.bind_some _ _).symm.trans H; rw [hy982]; with_reducible exact H2_) | (have H2_ := (Option.bind_some _ _).symm.trans H; with_reducible exact H2_) | with_reducible exact H | (rw [hy982]; exact H) | exact H
         have Ny982 := Aside0.mk hy982
         clear hy982
         by_cases c37 : y982.length + x0_3.length < 1599289640401
         ·rw [if_pos c37] at H
          have LMc37 := Aside0.mk c37
          clear c37
          obtain ⟨y985, hy985⟩ : ∃ y_ : List (S26), y_ = (y982 ++ x0_3) := ⟨_, rfl⟩
          replace H : ((rule_First.f kj3 y985 x943000_3 x943001_3 x943002_3 x943003_3 x943004_3).bind fun bt988 => (if (t956 != t978) = true then (none) else (if (t956 != bt988.2) = true then (none) else (tolllaw06_RuleTurns.j1 kj3 x0_3 t955 t956 y974 t977 (bt988.1 != t955))))) = some r := by first | (rw [hy985]; with_reducible exact H) | (have H2_ := (Option.bind_some _ _).symm.trans H; rw [hy985]; with_reducible exact H2_) | (have H2_ := (Option.bind_some _ _).symm.trans H; with_reducible exact H2_) | with_reducible exact H | (rw [hy985]; exact H) | exact H
          have Ny985 := Aside0.mk hy985
          clear hy985
          replace H := Option.bind_eq_some_iff.mp H
          obtain ⟨⟨t988, t989⟩, A380, H⟩ := H
          replace H : (if (t956 != t978) = true then (none) else (if (t956 != t989) = true then (none) else (tolllaw06_RuleTurns.j1 kj3 x0_3 t955 t956 y974 t977 (t988 != t955)))) = some r := H
          have A38 := Aside0.mk A380
          clear A380
          have HC39 := Aside0.mk H
          clear H
          have hcz40_0 : wc.cell? ⟨gb942, 0, none⟩ = some (.string x943000_3) := (blk_cell BK942.out 0).trans rfl
          have hcz40_1 : wc.cell? ⟨gb942, 1, none⟩ = some (.string x943001_3) := (blk_cell BK942.out 1).trans rfl
          have hcz40_2 : wc.cell? ⟨gb942, 2, none⟩ = some (.string x943002_3) := (blk_cell BK942.out 2).trans rfl
          have hcz40_3 : wc.cell? ⟨gb942, 3, none⟩ = some (u943003) := (blk_cell BK942.out 3).trans rfl
          have hcz40_4 : wc.cell? ⟨gb942, 4, none⟩ = some (u943004) := (blk_cell BK942.out 4).trans rfl
          have hfz40_0 := blk_frozen BK942.out 0
          have hfz40_1 := blk_frozen BK942.out 1
          have hfz40_2 := blk_frozen BK942.out 2
          have hfz40_3 := blk_frozen BK942.out 3
          have hfz40_4 := blk_frozen BK942.out 4
          obtain ⟨Ao41, co41, eo41⟩ := Kd.N_slice HO_0.out
          subst eo41
          obtain ⟨Ao42, co42, eo42⟩ := Kd.R_slice HO_943003.out
          subst eo42
          obtain ⟨Ao43, co43, eo43⟩ := Kd.R_slice HO_943004.out
          subst eo43
          try go_wp2_with (first | ((with_reducible refine gate_callee (f := 21) rfl ?_); refine goesL_ (some 22) rfl rfl Tryd.func21 kr_ rfl #[.slice Ao41 x0_3.length co41, .agg #[.string x943000_3, .string x943001_3, .string x943002_3, .slice Ao42 x943003_3.length co42, .slice Ao43 x943004_3.length co43]] rfl rl_ ?_; (with_reducible refine (rule_First.calls kj3 _ _ x0_3 x943000_3 x943001_3 x943002_3 _ _ x943003_3 _ _ x943004_3 t955 t956 _ ?side1 ?side2 ?side3 ?side4 ?side5 ?side6 A18.out).mono ?_); (case side1 => exact C_ (Kd.N_reads' HO_0.out).2.2); (case side2 => exact (Kd.N_reads' HO_0.out).2.1); (case side3 => exact C_ (Kd.R_reads' HO_943003.out).2.2); (case side4 => exact (Kd.R_reads' HO_943003.out).2.1); (case side5 => exact C_ (Kd.R_reads' HO_943004.out).2.2); (case side6 => exact (Kd.R_reads' HO_943004.out).2.1); rintro e w44 ⟨rfl, hb⟩; refine ⟨_, rfl, ?_⟩; have n0_ := am_ (Kd.N_below (N_ HO_0.out) hb); have n1_ := am_ (Kd.R_below (R_ HO_943003.out) hb); have n2_ := am_ (Kd.R_below (R_ HO_943004.out) hb); have n3_ := am_ (blk_below (g := gb942) (o := .cells #[.string x943000_3, .string x943001_3, .string x943002_3, .slice Ao42 x943003_3.length co42, .slice Ao43 x943004_3.length co43] 28 (0, 0)) (blk_ BK942.out) hb); have n4_ := am_ (below_step (bel_ HB.out) hb); clear HO_0 HO_943003 HO_943004 BK942 HB; have HO_0 := n0_; have HO_943003 := n1_; have HO_943004 := n2_; have BK942 := n3_; have HB := n4_; clear n0_ n1_ n2_ n3_ n4_; (try clear hb); (try clear hb2); (try clear hk); (try clear hi)))
          have n0_ := am_ (Kd.N_drew HO_0.out)
          have n1_ := am_ (Kd.R_drew HO_943003.out)
          have n2_ := am_ (Kd.R_drew HO_943004.out)
          have n3_ := am_ (blk_drew BK942.out)
          have n4_ := am_ (below_drew1 HB.out)
          clear HO_0 HO_943003 HO_943004 BK942 HB
          have HO_0 := n0_
          have HO_943003 := n1_
          have HO_943004 := n2_
          have BK942 := n3_
          have HB := n4_
          clear n0_ n1_ n2_ n3_ n4_
          have q46 : ((ji28) : Int) ≤ ((x0_3.length : Int) : Int) := of_decide_eq_true as_
          obtain ⟨i046, hi046, _, hsz46, _⟩ := info_parts info26
          have hroom46 : x0_3.length ≤ co41 := (Kd.N_reads' HO_0.out).2.1
          have hC46 : Kd.F k26 _ _ Ao41 x0_3.length x0_3 := (Kd.V_at (base := w.heap.size) (Kd.N_V HO_0.out)).2.2
          have q046 : (0 : Int) ≤ ((ji28) : Int) := of_decide_eq_true as_
          have hcut46 := cut_from (P := Tryd.prog) 39 26 .i64 Tryd.underlying39 hi046 5 hsz46 Ao41 x0_3.length co41 (ji28) q046 q46
          have hr46 := Kd.F_cut (m := ((ji28) : Int).toNat) (c := co41) hC46 (by omega) hroom46
          obtain ⟨A46, hA46⟩ : ∃ A1, A1 = (if co41 = ((ji28) : Int).toNat then Ao41 else (Ao41 : Option Addr).map (·.add (((ji28) : Int).toNat * 5))) := ⟨_, rfl⟩
          obtain ⟨c46, hc46⟩ : ∃ c1, c1 = co41 - ((ji28) : Int).toNat := ⟨_, rfl⟩
          have hy46 : y961.length = x0_3.length - ((ji28) : Int).toNat := (by rw [Ny961.out, List.length_drop] <;> omega)
          rw [show (x0_3).drop ((ji28) : Int).toNat = y961 from Ny961.out.symm] at hr46
          replace hr46 : Kd.F k26 _ _ A46 y961.length y961 := (by rw [hA46]; exact hr46)
          rw [← hy46, ← hA46, ← hc46] at hcut46
          have HO965 := am_ (show Kd.V k26 26 _ w.heap.size _ (.slice A46 y961.length c46) y961 from Kd.V_mk (by rw [hy46, hc46]; exact Nat.sub_le_sub_right hroom46 _) hr46)
          have HC965 := am_ (show y961.length ≤ c46 from by rw [hy46, hc46]; exact Nat.sub_le_sub_right hroom46 _)
          clear hr46 hC46 hroom46 hi046 hsz46 hc46
          have KY46 := Aside0.mk hy46
          have KA46 := Aside0.mk hA46
          clear hy46 hA46
          replace q46 := eq_true q46
          have q47 : ((ji28) : Int) ≤ ((x0_3.length : Int) : Int) := of_decide_eq_true as_
          obtain ⟨i047, hi047, _, hsz47, _⟩ := info_parts info26
          have hroom47 : x0_3.length ≤ co41 := (Kd.N_reads' HO_0.out).2.1
          have hC47 : Kd.F k26 _ _ Ao41 x0_3.length x0_3 := (Kd.V_at (base := w.heap.size) (Kd.N_V HO_0.out)).2.2
          have hcut47 := cut_to (P := Tryd.prog) 39 26 .i64 Tryd.underlying39 hi047 Ao41 x0_3.length co41 (ji28) (of_decide_eq_true as_) q47 hroom47
          have hr47 := Kd.F_take (m := ((ji28) : Int).toNat) hC47 (by omega)
          have hy47 : y969.length = ((ji28) : Int).toNat := (by rw [Ny969.out, List.length_take]; omega)
          rw [← Ny969.out] at hr47
          rw [← hy47] at hcut47
          have HO973 := am_ (show Kd.V k26 26 _ w.heap.size _ (.slice Ao41 y969.length co41) y969 from Kd.V_mk (by omega) hr47)
          have HC973 := am_ (show y969.length ≤ co41 from by omega)
          clear hr47 hC47 hroom47 hi047 hsz47
          have KY47 := Aside0.mk hy47
          clear hy47
          replace q47 := eq_true q47
          refine start_ (n := 10) (S := fun w' => True) (ds := []) #[false, false, false, false, false, false, false, false, false, false] kr_ rfl rfl trivial (fun hHeld => ?_); refine with_tabW tolllaw06_RuleTurns.tab6 tolllaw06_RuleTurns.bits6 (fun HT_ HW_ => ?_)
          generalize w44.drew = w45 at HO_0 HO_943003 HO_943004 BK942 HB HO965 HO973 hHeld ⊢
          refine pure_ (i := 1) (N := some 39) (v := ?_) (a' := ?_) #[false, true, false, false, false, false, false, false, false, false] rfl rfl (any_of HT_.out kr_) (fun _ _ _ h => h) (Or.inl ⟨by rfl, ?_⟩) ?_ ?_
          rotate_left
          ·intro w'
           go_simp
           with_reducible rfl
          rotate_left
          ·simp only [Act.put, sx_, s0_, s1_, i64_w, i32_w]
           rfl
          refine pure_ (i := 2) (N := some 40) (v := ?_) (a' := ?_) #[false, true, true, false, false, false, false, false, false, false] rfl rfl (any_of HT_.out kr_) (fun _ _ _ h => h) (Or.inl ⟨by rfl, ?_⟩) ?_ ?_
          rotate_left
          ·intro w'
           go_simp
           with_reducible rfl
          rotate_left
          ·simp only [Act.put, sx_, s0_, s1_, i64_w, i32_w]
           rfl
          refine pure_ (i := 3) (N := some 41) (v := ?_) (a' := ?_) #[false, true, true, true, false, false, false, false, false, false] rfl rfl (any_of HT_.out kr_) (fun _ _ _ h => h) (Or.inl ⟨by rfl, ?_⟩) ?_ ?_
          rotate_left
          ·intro w'
           go_simp
           with_reducible rfl
          rotate_left
          ·simp only [Act.put, sx_, s0_, s1_, i64_w, i32_w]
           rfl
          refine pure_ (i := 5) (N := some 43) (v := ?_) (a' := ?_) #[false, true, true, true, false, true, false, false, false, false] rfl rfl (any_of HT_.out kr_) (fun _ _ _ h => h) (Or.inl ⟨by rfl, ?_⟩) ?_ ?_
          rotate_left
          ·intro w'
           go_simp
           with_reducible rfl
          rotate_left
          ·simp only [Act.put, sx_, s0_, s1_, i64_w, i32_w]
           rfl
          refine pure_ (i := 6) (N := some 44) (v := ?_) (a' := ?_) #[false, true, true, true, false, true, true, false, false, false] rfl rfl (any_of HT_.out kr_) (fun _ _ _ h => h) (Or.inl ⟨by rfl, ?_⟩) ?_ ?_
          rotate_left
          ·intro w'
           go_simp
           with_reducible rfl
          rotate_left
          ·simp only [Act.put, sx_, s0_, s1_, i64_w, i32_w]
           rfl
          refine pure_ (i := 7) (N := some 45) (v := ?_) (a' := ?_) #[false, true, true, true, false, true, true, true, false, false] rfl rfl (any_of HT_.out kr_) (fun _ _ _ h => h) (Or.inl ⟨by rfl, ?_⟩) ?_ ?_
          rotate_left
          ·intro w'
           go_simp
           with_reducible rfl
          rotate_left
          ·simp only [Act.put, sx_, s0_, s1_, i64_w, i32_w]
           rfl
          refine one_ (i := 0) (N := some 38) #[true, true, true, true, false, true, true, true, false, false] rfl rfl (one_of HT_.out kr_) (by decide) (fun K hK => ?_)
          refine Kd.N_lit_step k26 _ 26 ?hg (N' := 38) ?hd (xs := ([] : List (S26))) (inner := []) (ok := (fun k_ => some k_ ≠ (.slice Ao41 x0_3.length co41 : Value).ownBlock ∧ some k_ ≠ (.slice Ao42 x943003_3.length co42 : Value).ownBlock ∧ some k_ ≠ (.slice Ao43 x943004_3.length co43 : Value).ownBlock ∧ k_ ≠ gb942)) (okp := (fun k_ => some k_ ≠ (.slice Ao41 x0_3.length co41 : Value).ownBlock ∧ some k_ ≠ (.slice Ao42 x943003_3.length co42 : Value).ownBlock ∧ some k_ ≠ (.slice Ao43 x943004_3.length co43 : Value).ownBlock ∧ k_ ≠ gb942)) ?hr ?hp (fun _ hk => hk) ((show ∀ k_, w45.heap.size ≤ k_ → (fun k_ => some k_ ≠ (.slice Ao41 x0_3.length co41 : Value).ownBlock ∧ some k_ ≠ (.slice Ao42 x943003_3.length co42 : Value).ownBlock ∧ some k_ ≠ (.slice Ao43 x943004_3.length co43 : Value).ownBlock ∧ k_ ≠ gb942) k_ from fun k_ hk => ⟨Kd.fresh' (Kd.N_lt (N_ HO_0.out)) k_ hk, Kd.fresh' (Kd.R_lt (R_ HO_943003.out)) k_ hk, Kd.fresh' (Kd.R_lt (R_ HO_943004.out)) k_ hk, Kd.freshB (g := gb942) (o := .cells #[.string x943000_3, .string x943001_3, .string x943002_3, .slice Ao42 x943003_3.length co42, .slice Ao43 x943004_3.length co43] 28 (0, 0)) (blk_ BK942.out) k_ hk⟩) _ (Nat.le_refl _)) (Below.refl _ _) (Nat.le_refl _) (by simp) ?_; (case hd => rfl); (case hg => rfl); (case hr => first | (go_simp; done) | (go_simp; rfl)); (case hp => exact (Reps.none _ _))
          intro v959 w48 ho49 hb hg_ hnew_
          clear hg_ hnew_
          (first | rw [← Ny958.out] at ho49 | (simp only [Int.reduceToNat] at ho49; rw [← Ny958.out] at ho49))
          have n0_ := am_ (Kd.N_elder' (N_ HO_0.out) (Kd.N_base ho49) hb)
          have n1_ := am_ (Kd.R_below (R_ HO_943003.out) hb)
          have n2_ := am_ (Kd.R_below (R_ HO_943004.out) hb)
          have n3_ := am_ (Kd.V_elder' (by (with_reducible repeat (first | apply Kd.V_alloc | apply Kd.V_drewN | apply Kd.V_drew)); exact HO965.out) (Kd.N_base ho49) hb)
          have n4_ := am_ (Kd.V_elder' (by (with_reducible repeat (first | apply Kd.V_alloc | apply Kd.V_drewN | apply Kd.V_drew)); exact HO973.out) (Kd.N_base ho49) hb)
          have n5_ := am_ (Kd.N_lower ho49 (below_size (bel_ HB.out)))
          have n6_ := am_ (blk_below (g := gb942) (o := .cells #[.string x943000_3, .string x943001_3, .string x943002_3, .slice Ao42 x943003_3.length co42, .slice Ao43 x943004_3.length co43] 28 (0, 0)) (blk_ BK942.out) hb)
          have n7_ := am_ (below_step (bel_ HB.out) hb)
          clear HO_0 HO_943003 HO_943004 HO965 HO973 BK942 HB
          have HO_0 := n0_
          have HO_943003 := n1_
          have HO_943004 := n2_
          have HO965 := n3_
          have HO973 := n4_
          have HO960 := n5_
          have BK942 := n6_
          have HB := n7_
          clear n0_ n1_ n2_ n3_ n4_ n5_ n6_ n7_ hb ho49
          refine hK.out _ _ trivial (fun hHeld => ?_)
          clear hK K
          refine norm_ (a' := ?_) ?_ ?_
          rotate_left
          ·show Act.put _ (some 38) _ = _
           simp only [Act.put, sx_, s0_, s1_, i64_w, i32_w]
           rfl
          refine one_ (i := 4) (N := some 42) #[true, true, true, true, true, true, true, true, false, false] rfl rfl (one_of HT_.out kr_) (by decide) (fun K hK => ?_)
          refine Kd.N_append_rows_step k26 (w0 := w) w.heap.size (by rfl) (.tmp 38) (.tmp 41) 39 26 (.agg #[(.int .i64 0), (.string ⟨#[]⟩), (.string ⟨#[]⟩), (.slice none 0 0), (.slice none 0 0)]) 88 rfl Tryd.underlying39 info26 rfl (by decide) (by omega) v959 y958 y961 _ _ _ (fun k_ => some k_ ≠ (.slice Ao42 x943003_3.length co42 : Value).ownBlock ∧ some k_ ≠ (.slice Ao43 x943004_3.length co43 : Value).ownBlock ∧ k_ ≠ gb942) (fun k_ => ((fun k_ => some k_ ≠ (.slice Ao42 x943003_3.length co42 : Value).ownBlock ∧ some k_ ≠ (.slice Ao43 x943004_3.length co43 : Value).ownBlock ∧ k_ ≠ gb942)) k_ ∧ some k_ ≠ (v959 : Value).ownBlock) rfl rfl ?aO ?aR (fun _ hk => hk) ?aF ?aB ?aS ?aL ?_
          (case aR => exact (by skip; exact Kd.V_F (Kd.V_mono (ok' := (fun k_ => ((fun k_ => some k_ ≠ (.slice Ao42 x943003_3.length co42 : Value).ownBlock ∧ some k_ ≠ (.slice Ao43 x943004_3.length co43 : Value).ownBlock ∧ k_ ≠ gb942)) k_ ∧ some k_ ≠ (v959 : Value).ownBlock)) (HO965.out) (fun k_ hk => ⟨⟨hk.1.1, ⟨hk.1.2.1, hk.1.2.2⟩⟩, hk.2⟩))))
          (case aB => exact (bel_ HB.out))
          (case aF => exact (fun k_ hk => ⟨Kd.fresh' (Kd.R_lt (R_ HO_943003.out)) k_ hk, Kd.fresh' (Kd.R_lt (R_ HO_943004.out)) k_ hk, Kd.freshB (g := gb942) (o := .cells #[.string x943000_3, .string x943001_3, .string x943002_3, .slice Ao42 x943003_3.length co42, .slice Ao43 x943004_3.length co43] 28 (0, 0)) (blk_ BK942.out) k_ hk⟩))
          (case aO => exact (by (with_reducible repeat (first | apply Kd.N_alloc | apply Kd.N_drewN | apply Kd.N_drew)); exact Kd.N_mono HO960.out (fun _ hk => ⟨hk.2.1, ⟨hk.2.2.1, hk.2.2.2⟩⟩)))
          (case aS => exact (below_size (bel_ HB.out)))
          (case aL => have := LMc31.out; omega)
          intro v967 w50 ho hb hg hat
          rw [← Ny966.out] at ho
          have n0_ := am_ (Kd.N_afterv (ok := (fun k_ => some k_ ≠ (.slice Ao42 x943003_3.length co42 : Value).ownBlock ∧ some k_ ≠ (.slice Ao43 x943004_3.length co43 : Value).ownBlock ∧ k_ ≠ gb942)) (N_ HO_0.out) hg hat)
          have n1_ := am_ (Kd.R_over' (R_ HO_943003.out) (Kd.N_typed (N_ HO960.out)) (by decide) hg)
          have n2_ := am_ (Kd.R_over' (R_ HO_943004.out) (Kd.N_typed (N_ HO960.out)) (by decide) hg)
          have n3_ := am_ (blk_grown (g := gb942) (o := .cells #[.string x943000_3, .string x943001_3, .string x943002_3, .slice Ao42 x943003_3.length co42, .slice Ao43 x943004_3.length co43] 28 (0, 0)) (blk_ BK942.out) hg (Kd.N_ne HO960.out BK942.out (by decide)))
          have n4_ := am_ (Kd.V_afterv (ok := (fun k_ => some k_ ≠ (.slice Ao42 x943003_3.length co42 : Value).ownBlock ∧ some k_ ≠ (.slice Ao43 x943004_3.length co43 : Value).ownBlock ∧ k_ ≠ gb942)) (by (with_reducible repeat (first | apply Kd.V_alloc | apply Kd.V_drewN | apply Kd.V_drew)); exact HO965.out) hg hat)
          have n5_ := am_ (Kd.V_afterv (ok := (fun k_ => some k_ ≠ (.slice Ao42 x943003_3.length co42 : Value).ownBlock ∧ some k_ ≠ (.slice Ao43 x943004_3.length co43 : Value).ownBlock ∧ k_ ≠ gb942)) (by (with_reducible repeat (first | apply Kd.V_alloc | apply Kd.V_drewN | apply Kd.V_drew)); exact HO973.out) hg hat)
          have n6_ := am_ (hb)
          have n7_ := am_ (ho)
          clear HO_0 HO_943003 HO_943004 BK942 HO965 HO973 HB HO960
          have HO_0 := n0_
          have HO_943003 := n1_
          have HO_943004 := n2_
          have BK942 := n3_
          have HO965 := n4_
          have HO973 := n5_
          have HB := n6_
          have HO968 := n7_
          clear n0_ n1_ n2_ n3_ n4_ n5_ n6_ n7_ ho hb hg hat
          refine hK.out _ _ trivial (fun hHeld => ?_)
          clear hK K
          refine norm_ (a' := ?_) ?_ ?_
          rotate_left
          ·show Act.put _ (some 42) _ = _
           simp only [Act.put, sx_, s0_, s1_, i64_w, i32_w]
           rfl
          refine one_ (i := 8) (N := some 46) #[true, true, true, true, true, true, true, true, true, false] rfl rfl (one_of HT_.out kr_) (by decide) (fun K hK => ?_)
          refine Kd.N_append_rows_step k26 (w0 := w) w.heap.size (by rfl) (.tmp 42) (.tmp 45) 39 26 (.agg #[(.int .i64 0), (.string ⟨#[]⟩), (.string ⟨#[]⟩), (.slice none 0 0), (.slice none 0 0)]) 88 rfl Tryd.underlying39 info26 rfl (by decide) (by omega) v967 y966 y969 _ _ _ (fun k_ => some k_ ≠ (.slice Ao42 x943003_3.length co42 : Value).ownBlock ∧ some k_ ≠ (.slice Ao43 x943004_3.length co43 : Value).ownBlock ∧ k_ ≠ gb942) (fun k_ => ((fun k_ => some k_ ≠ (.slice Ao42 x943003_3.length co42 : Value).ownBlock ∧ some k_ ≠ (.slice Ao43 x943004_3.length co43 : Value).ownBlock ∧ k_ ≠ gb942)) k_ ∧ some k_ ≠ (v967 : Value).ownBlock) rfl rfl ?aO ?aR (fun _ hk => hk) ?aF ?aB ?aS ?aL ?_
          (case aR => exact (by skip; exact Kd.V_F (Kd.V_mono (ok' := (fun k_ => ((fun k_ => some k_ ≠ (.slice Ao42 x943003_3.length co42 : Value).ownBlock ∧ some k_ ≠ (.slice Ao43 x943004_3.length co43 : Value).ownBlock ∧ k_ ≠ gb942)) k_ ∧ some k_ ≠ (v967 : Value).ownBlock)) (HO973.out) (fun k_ hk => ⟨⟨hk.1.1, ⟨hk.1.2.1, hk.1.2.2⟩⟩, hk.2⟩))))
          (case aB => exact (bel_ HB.out))
          (case aF => exact (fun k_ hk => ⟨Kd.fresh' (Kd.R_lt (R_ HO_943003.out)) k_ hk, Kd.fresh' (Kd.R_lt (R_ HO_943004.out)) k_ hk, Kd.freshB (g := gb942) (o := .cells #[.string x943000_3, .string x943001_3, .string x943002_3, .slice Ao42 x943003_3.length co42, .slice Ao43 x943004_3.length co43] 28 (0, 0)) (blk_ BK942.out) k_ hk⟩))
          (case aO => exact (N_ HO968.out))
          (case aS => exact (below_size (bel_ HB.out)))
          (case aL => have := LMc34.out; omega)
          intro v975 w51 ho hb hg hat
          rw [← Ny974.out] at ho
          have n0_ := am_ (Kd.N_afterv (ok := (fun k_ => some k_ ≠ (.slice Ao42 x943003_3.length co42 : Value).ownBlock ∧ some k_ ≠ (.slice Ao43 x943004_3.length co43 : Value).ownBlock ∧ k_ ≠ gb942)) (N_ HO_0.out) hg hat)
          have n1_ := am_ (Kd.R_over' (R_ HO_943003.out) (Kd.N_typed (N_ HO968.out)) (by decide) hg)
          have n2_ := am_ (Kd.R_over' (R_ HO_943004.out) (Kd.N_typed (N_ HO968.out)) (by decide) hg)
          have n3_ := am_ (blk_grown (g := gb942) (o := .cells #[.string x943000_3, .string x943001_3, .string x943002_3, .slice Ao42 x943003_3.length co42, .slice Ao43 x943004_3.length co43] 28 (0, 0)) (blk_ BK942.out) hg (Kd.N_ne HO968.out BK942.out (by decide)))
          have n4_ := am_ (Kd.V_afterv (ok := (fun k_ => some k_ ≠ (.slice Ao42 x943003_3.length co42 : Value).ownBlock ∧ some k_ ≠ (.slice Ao43 x943004_3.length co43 : Value).ownBlock ∧ k_ ≠ gb942)) (by (with_reducible repeat (first | apply Kd.V_alloc | apply Kd.V_drewN | apply Kd.V_drew)); exact HO965.out) hg hat)
          have n5_ := am_ (Kd.V_afterv (ok := (fun k_ => some k_ ≠ (.slice Ao42 x943003_3.length co42 : Value).ownBlock ∧ some k_ ≠ (.slice Ao43 x943004_3.length co43 : Value).ownBlock ∧ k_ ≠ gb942)) (by (with_reducible repeat (first | apply Kd.V_alloc | apply Kd.V_drewN | apply Kd.V_drew)); exact HO973.out) hg hat)
          have n6_ := am_ (hb)
          have n7_ := am_ (ho)
          clear HO_0 HO_943003 HO_943004 BK942 HO965 HO973 HB HO968
          have HO_0 := n0_
          have HO_943003 := n1_
          have HO_943004 := n2_
          have BK942 := n3_
          have HO965 := n4_
          have HO973 := n5_
          have HB := n6_
          have HO976 := n7_
          clear n0_ n1_ n2_ n3_ n4_ n5_ n6_ n7_ ho hb hg hat
          refine hK.out _ _ trivial (fun hHeld => ?_)
          clear hK K
          refine norm_ (a' := ?_) ?_ ?_
          rotate_left
          ·show Act.put _ (some 46) _ = _
           simp only [Act.put, sx_, s0_, s1_, i64_w, i32_w]
           rfl
          refine pure_ (i := 9) (N := some 10) (v := ?_) (a' := ?_) #[true, true, true, true, true, true, true, true, true, true] rfl rfl (any_of HT_.out kr_) (fun _ _ _ h => h) (Or.inl ⟨by rfl, ?_⟩) ?_ ?_
          rotate_left
          ·intro w'
           go_simp
           with_reducible rfl
          rotate_left
          ·simp only [Act.put, sx_, s0_, s1_, i64_w, i32_w]
           rfl
          refine done_ (done_of HT_.out kr_) ?_
          have hcz52_0 : w51.cell? ⟨gb942, 0, none⟩ = some (.string x943000_3) := (blk_cell BK942.out 0).trans rfl
          have hcz52_1 : w51.cell? ⟨gb942, 1, none⟩ = some (.string x943001_3) := (blk_cell BK942.out 1).trans rfl
          have hcz52_2 : w51.cell? ⟨gb942, 2, none⟩ = some (.string x943002_3) := (blk_cell BK942.out 2).trans rfl
          have hcz52_3 : w51.cell? ⟨gb942, 3, none⟩ = some (.slice Ao42 x943003_3.length co42) := (blk_cell BK942.out 3).trans rfl
          have hcz52_4 : w51.cell? ⟨gb942, 4, none⟩ = some (.slice Ao43 x943004_3.length co43) := (blk_cell BK942.out 4).trans rfl
          have hfz52_0 := blk_frozen BK942.out 0
          have hfz52_1 := blk_frozen BK942.out 1
          have hfz52_2 := blk_frozen BK942.out 2
          have hfz52_3 := blk_frozen BK942.out 3
          have hfz52_4 := blk_frozen BK942.out 4
          obtain ⟨Ao53, co53, eo53⟩ := Kd.N_slice HO976.out
          subst eo53
          try go_wp2_with (first | ((with_reducible refine gate_callee (f := 21) rfl ?_); refine goesL_ (some 50) rfl rfl Tryd.func21 kr_ rfl #[.slice Ao53 y974.length co53, .agg #[.string x943000_3, .string x943001_3, .string x943002_3, .slice Ao42 x943003_3.length co42, .slice Ao43 x943004_3.length co43]] rfl rl_ ?_; (with_reducible refine (rule_First.calls kj3 _ _ y974 x943000_3 x943001_3 x943002_3 _ _ x943003_3 _ _ x943004_3 t977 t978 _ ?side1 ?side2 ?side3 ?side4 ?side5 ?side6 A35.out).mono ?_); (case side1 => exact C_ (Kd.N_reads' HO976.out).2.2); (case side2 => exact (Kd.N_reads' HO976.out).2.1); (case side3 => exact C_ (Kd.R_reads' HO_943003.out).2.2); (case side4 => exact (Kd.R_reads' HO_943003.out).2.1); (case side5 => exact C_ (Kd.R_reads' HO_943004.out).2.2); (case side6 => exact (Kd.R_reads' HO_943004.out).2.1); rintro e w54 ⟨rfl, hb⟩; refine ⟨_, rfl, ?_⟩; have n0_ := am_ (Kd.N_below (N_ HO_0.out) hb); have n1_ := am_ (Kd.R_below (R_ HO_943003.out) hb); have n2_ := am_ (Kd.R_below (R_ HO_943004.out) hb); have n3_ := am_ (Kd.V_below (by (with_reducible repeat (first | apply Kd.V_alloc | apply Kd.V_drewN | apply Kd.V_drew)); exact HO965.out) hb); have n4_ := am_ (Kd.V_below (by (with_reducible repeat (first | apply Kd.V_alloc | apply Kd.V_drewN | apply Kd.V_drew)); exact HO973.out) hb); have n5_ := am_ (Kd.N_below (N_ HO976.out) hb); have n6_ := am_ (blk_below (g := gb942) (o := .cells #[.string x943000_3, .string x943001_3, .string x943002_3, .slice Ao42 x943003_3.length co42, .slice Ao43 x943004_3.length co43] 28 (0, 0)) (blk_ BK942.out) hb); have n7_ := am_ (below_step (bel_ HB.out) hb); clear HO_0 HO_943003 HO_943004 HO965 HO973 HO976 BK942 HB; have HO_0 := n0_; have HO_943003 := n1_; have HO_943004 := n2_; have HO965 := n3_; have HO973 := n4_; have HO976 := n5_; have BK942 := n6_; have HB := n7_; clear n0_ n1_ n2_ n3_ n4_ n5_ n6_ n7_; (try clear hb); (try clear hb2); (try clear hk); (try clear hi)))
          have n0_ := am_ (Kd.N_drew HO_0.out)
          have n1_ := am_ (Kd.R_drew HO_943003.out)
          have n2_ := am_ (Kd.R_drew HO_943004.out)
          have n3_ := am_ (Kd.V_drew HO965.out)
          have n4_ := am_ (Kd.V_drew HO973.out)
          have n5_ := am_ (Kd.N_drew HO976.out)
          have n6_ := am_ (blk_drew BK942.out)
          have n7_ := am_ (below_drew1 HB.out)
          clear HO_0 HO_943003 HO_943004 HO965 HO973 HO976 BK942 HB
          have HO_0 := n0_
          have HO_943003 := n1_
          have HO_943004 := n2_
          have HO965 := n3_
          have HO973 := n4_
          have HO976 := n5_
          have BK942 := n6_
          have HB := n7_
          clear n0_ n1_ n2_ n3_ n4_ n5_ n6_ n7_
          refine start_ (n := 12) (S := fun w' => w'.cell? ⟨gb942, 0, none⟩ = some (.string x943000_3) ∧ w'.cell? ⟨gb942, 1, none⟩ = some (.string x943001_3) ∧ w'.cell? ⟨gb942, 2, none⟩ = some (.string x943002_3) ∧ w'.cell? ⟨gb942, 3, none⟩ = some (.slice Ao42 x943003_3.length co42) ∧ w'.cell? ⟨gb942, 4, none⟩ = some (.slice Ao43 x943004_3.length co43)) (ds := []) #[false, false, false, false, false, false, false, false, false, false, false, false] kr_ rfl rfl ⟨(blk_cell BK942.out 0).trans rfl, (blk_cell BK942.out 1).trans rfl, (blk_cell BK942.out 2).trans rfl, (blk_cell BK942.out 3).trans rfl, (blk_cell BK942.out 4).trans rfl⟩ (fun hHeld => ?_); refine with_tabW tolllaw06_RuleTurns.tab8 tolllaw06_RuleTurns.bits8 (fun HT_ HW_ => ?_)
          generalize w54.drew = w55 at HO_0 HO_943003 HO_943004 HO965 HO973 HO976 BK942 HB hHeld ⊢
          refine pure_ (i := 1) (N := some 55) (v := ?_) (a' := ?_) #[false, true, false, false, false, false, false, false, false, false, false, false] rfl rfl (any_of HT_.out kr_) (fun _ _ _ h => h) (Or.inl ⟨by rfl, ?_⟩) ?_ ?_
          rotate_left
          ·intro w'
           go_simp
           with_reducible rfl
          rotate_left
          ·simp only [Act.put, sx_, s0_, s1_, i64_w, i32_w]
           rfl
          refine pure_ (i := 3) (N := some 57) (v := ?_) (a' := ?_) #[false, true, false, true, false, false, false, false, false, false, false, false] rfl rfl (any_of HT_.out kr_) (fun _ _ _ h => h) (Or.inl ⟨by rfl, ?_⟩) ?_ ?_
          rotate_left
          ·intro w'
           go_simp
           with_reducible rfl
          rotate_left
          ·simp only [Act.put, sx_, s0_, s1_, i64_w, i32_w]
           rfl
          refine take_ (i := 5) (N := some 59) (v := ?_) (a' := ?_) #[false, true, false, true, false, true, false, false, false, false, false, false] rfl rfl (take_ofW HT_.out HW_.out kr_) (fun _ _ _ h => h) (Or.inl ⟨by rfl, ?_⟩) hHeld ?_ ?_
          rotate_left
          ·rintro w' ⟨s0, s1, s2, s3, s4⟩
           go_simp
           with_reducible rfl
          rotate_left
          ·simp only [Act.put, sx_, s0_, s1_, i64_w, i32_w]
           rfl
          refine one_ (i := 0) (N := some 54) #[true, true, false, true, false, true, false, false, false, false, false, false] rfl rfl (one_of HT_.out kr_) (by decide) (fun K hK => ?_)
          refine Kd.N_lit_step k26 _ 26 ?hg (N' := 54) ?hd (xs := ([] : List (S26))) (inner := []) (ok := (fun k_ => some k_ ≠ (.slice Ao41 x0_3.length co41 : Value).ownBlock ∧ some k_ ≠ (.slice Ao42 x943003_3.length co42 : Value).ownBlock ∧ some k_ ≠ (.slice Ao43 x943004_3.length co43 : Value).ownBlock ∧ some k_ ≠ (.slice Ao53 y974.length co53 : Value).ownBlock ∧ k_ ≠ gb942)) (okp := (fun k_ => some k_ ≠ (.slice Ao41 x0_3.length co41 : Value).ownBlock ∧ some k_ ≠ (.slice Ao42 x943003_3.length co42 : Value).ownBlock ∧ some k_ ≠ (.slice Ao43 x943004_3.length co43 : Value).ownBlock ∧ some k_ ≠ (.slice Ao53 y974.length co53 : Value).ownBlock ∧ k_ ≠ gb942)) ?hr ?hp (fun _ hk => hk) ((show ∀ k_, w55.heap.size ≤ k_ → (fun k_ => some k_ ≠ (.slice Ao41 x0_3.length co41 : Value).ownBlock ∧ some k_ ≠ (.slice Ao42 x943003_3.length co42 : Value).ownBlock ∧ some k_ ≠ (.slice Ao43 x943004_3.length co43 : Value).ownBlock ∧ some k_ ≠ (.slice Ao53 y974.length co53 : Value).ownBlock ∧ k_ ≠ gb942) k_ from fun k_ hk => ⟨Kd.fresh' (Kd.N_lt (N_ HO_0.out)) k_ hk, Kd.fresh' (Kd.R_lt (R_ HO_943003.out)) k_ hk, Kd.fresh' (Kd.R_lt (R_ HO_943004.out)) k_ hk, Kd.fresh' (Kd.N_lt (N_ HO976.out)) k_ hk, Kd.freshB (g := gb942) (o := .cells #[.string x943000_3, .string x943001_3, .string x943002_3, .slice Ao42 x943003_3.length co42, .slice Ao43 x943004_3.length co43] 28 (0, 0)) (blk_ BK942.out) k_ hk⟩) _ (Nat.le_refl _)) (Below.refl _ _) (Nat.le_refl _) (by simp) ?_; (case hd => rfl); (case hg => rfl); (case hr => first | (go_simp; done) | (go_simp; rfl)); (case hp => exact (Reps.none _ _))
          intro v980 w56 ho57 hb hg_ hnew_
          clear hg_ hnew_
          (first | rw [← Ny979.out] at ho57 | (simp only [Int.reduceToNat] at ho57; rw [← Ny979.out] at ho57))
          have n0_ := am_ (Kd.N_elder' (N_ HO_0.out) (Kd.N_base ho57) hb)
          have n1_ := am_ (Kd.R_below (R_ HO_943003.out) hb)
          have n2_ := am_ (Kd.R_below (R_ HO_943004.out) hb)
          have n3_ := am_ (Kd.V_elder' (by (with_reducible repeat (first | apply Kd.V_alloc | apply Kd.V_drewN | apply Kd.V_drew)); exact HO965.out) (Kd.N_base ho57) hb)
          have n4_ := am_ (Kd.V_elder' (by (with_reducible repeat (first | apply Kd.V_alloc | apply Kd.V_drewN | apply Kd.V_drew)); exact HO973.out) (Kd.N_base ho57) hb)
          have n5_ := am_ (Kd.N_elder' (N_ HO976.out) (Kd.N_base ho57) hb)
          have n6_ := am_ (Kd.N_lower ho57 (below_size (bel_ HB.out)))
          have n7_ := am_ (blk_below (g := gb942) (o := .cells #[.string x943000_3, .string x943001_3, .string x943002_3, .slice Ao42 x943003_3.length co42, .slice Ao43 x943004_3.length co43] 28 (0, 0)) (blk_ BK942.out) hb)
          have n8_ := am_ (below_step (bel_ HB.out) hb)
          clear HO_0 HO_943003 HO_943004 HO965 HO973 HO976 BK942 HB
          have HO_0 := n0_
          have HO_943003 := n1_
          have HO_943004 := n2_
          have HO965 := n3_
          have HO973 := n4_
          have HO976 := n5_
          have HO981 := n6_
          have BK942 := n7_
          have HB := n8_
          clear n0_ n1_ n2_ n3_ n4_ n5_ n6_ n7_ n8_ hb ho57
          refine hK.out _ _ ⟨(blk_cell BK942.out 0).trans rfl, (blk_cell BK942.out 1).trans rfl, (blk_cell BK942.out 2).trans rfl, (blk_cell BK942.out 3).trans rfl, (blk_cell BK942.out 4).trans rfl⟩ (fun hHeld => ?_)
          clear hK K
          refine norm_ (a' := ?_) ?_ ?_
          rotate_left
          ·show Act.put _ (some 54) _ = _
           simp only [Act.put, sx_, s0_, s1_, i64_w, i32_w]
           rfl
          refine one_ (i := 2) (N := some 56) #[true, true, true, true, false, true, false, false, false, false, false, false] rfl rfl (one_of HT_.out kr_) (by decide) (fun K hK => ?_)
          refine Kd.N_append_rows_step k26 (w0 := w) w.heap.size (by rfl) (.tmp 54) (.tmp 55) 39 26 (.agg #[(.int .i64 0), (.string ⟨#[]⟩), (.string ⟨#[]⟩), (.slice none 0 0), (.slice none 0 0)]) 88 rfl Tryd.underlying39 info26 rfl (by decide) (by omega) v980 y979 x0_3 _ _ _ (fun k_ => some k_ ≠ (.slice Ao42 x943003_3.length co42 : Value).ownBlock ∧ some k_ ≠ (.slice Ao43 x943004_3.length co43 : Value).ownBlock ∧ some k_ ≠ (.slice Ao53 y974.length co53 : Value).ownBlock ∧ k_ ≠ gb942) (fun k_ => ((fun k_ => some k_ ≠ (.slice Ao42 x943003_3.length co42 : Value).ownBlock ∧ some k_ ≠ (.slice Ao43 x943004_3.length co43 : Value).ownBlock ∧ some k_ ≠ (.slice Ao53 y974.length co53 : Value).ownBlock ∧ k_ ≠ gb942)) k_ ∧ some k_ ≠ (v980 : Value).ownBlock) rfl rfl ?aO ?aR (fun _ hk => hk) ?aF ?aB ?aS ?aL ?_
          (case aR => exact (by skip; exact Kd.N_F (Kd.N_mono (ok' := (fun k_ => ((fun k_ => some k_ ≠ (.slice Ao42 x943003_3.length co42 : Value).ownBlock ∧ some k_ ≠ (.slice Ao43 x943004_3.length co43 : Value).ownBlock ∧ some k_ ≠ (.slice Ao53 y974.length co53 : Value).ownBlock ∧ k_ ≠ gb942)) k_ ∧ some k_ ≠ (v980 : Value).ownBlock)) (HO_0.out) (fun k_ hk => ⟨⟨hk.1.1.1, ⟨hk.1.1.2.1, ⟨hk.1.2, hk.1.1.2.2⟩⟩⟩, hk.2⟩))))
          (case aB => exact (bel_ HB.out))
          (case aF => exact (fun k_ hk => ⟨Kd.fresh' (Kd.R_lt (R_ HO_943003.out)) k_ hk, Kd.fresh' (Kd.R_lt (R_ HO_943004.out)) k_ hk, Kd.fresh' (Kd.N_lt (N_ HO976.out)) k_ hk, Kd.freshB (g := gb942) (o := .cells #[.string x943000_3, .string x943001_3, .string x943002_3, .slice Ao42 x943003_3.length co42, .slice Ao43 x943004_3.length co43] 28 (0, 0)) (blk_ BK942.out) k_ hk⟩))
          (case aO => exact (by (with_reducible repeat (first | apply Kd.N_alloc | apply Kd.N_drewN | apply Kd.N_drew)); exact Kd.N_mono HO981.out (fun _ hk => ⟨hk.2.1, ⟨hk.2.2.1, ⟨hk.2.2.2.1, hk.2.2.2.2⟩⟩⟩)))
          (case aS => exact (below_size (bel_ HB.out)))
          (case aL => have := LMc36.out; omega)
          intro v983 w58 ho hb hg hat
          rw [← Ny982.out] at ho
          have n0_ := am_ (Kd.N_afterv (ok := (fun k_ => some k_ ≠ (.slice Ao42 x943003_3.length co42 : Value).ownBlock ∧ some k_ ≠ (.slice Ao43 x943004_3.length co43 : Value).ownBlock ∧ some k_ ≠ (.slice Ao53 y974.length co53 : Value).ownBlock ∧ k_ ≠ gb942)) (by (with_reducible repeat (first | apply Kd.N_alloc | apply Kd.N_drewN | apply Kd.N_drew)); exact Kd.N_mono HO_0.out (fun _ hk => ⟨⟨hk.1.1.1, ⟨hk.1.1.2.1, ⟨hk.1.2, hk.1.1.2.2⟩⟩⟩, hk.2⟩)) hg hat)
          have n1_ := am_ (Kd.R_over' (R_ HO_943003.out) (Kd.N_typed (N_ HO981.out)) (by decide) hg)
          have n2_ := am_ (Kd.R_over' (R_ HO_943004.out) (Kd.N_typed (N_ HO981.out)) (by decide) hg)
          have n3_ := am_ (blk_grown (g := gb942) (o := .cells #[.string x943000_3, .string x943001_3, .string x943002_3, .slice Ao42 x943003_3.length co42, .slice Ao43 x943004_3.length co43] 28 (0, 0)) (blk_ BK942.out) hg (Kd.N_ne HO981.out BK942.out (by decide)))
          have n4_ := am_ (Kd.V_afterv (ok := (fun k_ => some k_ ≠ (.slice Ao42 x943003_3.length co42 : Value).ownBlock ∧ some k_ ≠ (.slice Ao43 x943004_3.length co43 : Value).ownBlock ∧ some k_ ≠ (.slice Ao53 y974.length co53 : Value).ownBlock ∧ k_ ≠ gb942)) (by (with_reducible repeat (first | apply Kd.V_alloc | apply Kd.V_drewN | apply Kd.V_drew)); exact Kd.V_mono HO965.out (fun _ hk => ⟨⟨hk.1.1.1, ⟨hk.1.1.2.1, ⟨hk.1.2, hk.1.1.2.2⟩⟩⟩, hk.2⟩)) hg hat)
          have n5_ := am_ (Kd.V_afterv (ok := (fun k_ => some k_ ≠ (.slice Ao42 x943003_3.length co42 : Value).ownBlock ∧ some k_ ≠ (.slice Ao43 x943004_3.length co43 : Value).ownBlock ∧ some k_ ≠ (.slice Ao53 y974.length co53 : Value).ownBlock ∧ k_ ≠ gb942)) (by (with_reducible repeat (first | apply Kd.V_alloc | apply Kd.V_drewN | apply Kd.V_drew)); exact Kd.V_mono HO973.out (fun _ hk => ⟨⟨hk.1.1.1, ⟨hk.1.1.2.1, ⟨hk.1.2, hk.1.1.2.2⟩⟩⟩, hk.2⟩)) hg hat)
          have n6_ := am_ (Kd.N_afterv (ok := (fun k_ => some k_ ≠ (.slice Ao42 x943003_3.length co42 : Value).ownBlock ∧ some k_ ≠ (.slice Ao43 x943004_3.length co43 : Value).ownBlock ∧ k_ ≠ gb942)) (N_ HO976.out) hg hat)
          have n7_ := am_ (hb)
          have n8_ := am_ (ho)
          clear HO_0 HO_943003 HO_943004 BK942 HO965 HO973 HO976 HB HO981
          have HO_0 := n0_
          have HO_943003 := n1_
          have HO_943004 := n2_
          have BK942 := n3_
          have HO965 := n4_
          have HO973 := n5_
          have HO976 := n6_
          have HB := n7_
          have HO984 := n8_
          clear n0_ n1_ n2_ n3_ n4_ n5_ n6_ n7_ n8_ ho hb hg hat
          refine hK.out _ _ ⟨(blk_cell BK942.out 0).trans rfl, (blk_cell BK942.out 1).trans rfl, (blk_cell BK942.out 2).trans rfl, (blk_cell BK942.out 3).trans rfl, (blk_cell BK942.out 4).trans rfl⟩ (fun hHeld => ?_)
          clear hK K
          refine norm_ (a' := ?_) ?_ ?_
          rotate_left
          ·show Act.put _ (some 56) _ = _
           simp only [Act.put, sx_, s0_, s1_, i64_w, i32_w]
           rfl
          refine one_ (i := 4) (N := some 58) #[true, true, true, true, true, true, false, false, false, false, false, false] rfl rfl (one_of HT_.out kr_) (by decide) (fun K hK => ?_)
          refine Kd.N_append_rows_step k26 (w0 := w) w.heap.size (by rfl) (.tmp 56) (.tmp 57) 39 26 (.agg #[(.int .i64 0), (.string ⟨#[]⟩), (.string ⟨#[]⟩), (.slice none 0 0), (.slice none 0 0)]) 88 rfl Tryd.underlying39 info26 rfl (by decide) (by omega) v983 y982 x0_3 _ _ _ (fun k_ => some k_ ≠ (.slice Ao42 x943003_3.length co42 : Value).ownBlock ∧ some k_ ≠ (.slice Ao43 x943004_3.length co43 : Value).ownBlock ∧ some k_ ≠ (.slice Ao53 y974.length co53 : Value).ownBlock ∧ k_ ≠ gb942) (fun k_ => ((fun k_ => some k_ ≠ (.slice Ao42 x943003_3.length co42 : Value).ownBlock ∧ some k_ ≠ (.slice Ao43 x943004_3.length co43 : Value).ownBlock ∧ some k_ ≠ (.slice Ao53 y974.length co53 : Value).ownBlock ∧ k_ ≠ gb942)) k_ ∧ some k_ ≠ (v983 : Value).ownBlock) rfl rfl ?aO ?aR (fun _ hk => hk) ?aF ?aB ?aS ?aL ?_
          (case aR => exact (by skip; exact Kd.N_F (Kd.N_mono (ok' := (fun k_ => ((fun k_ => some k_ ≠ (.slice Ao42 x943003_3.length co42 : Value).ownBlock ∧ some k_ ≠ (.slice Ao43 x943004_3.length co43 : Value).ownBlock ∧ some k_ ≠ (.slice Ao53 y974.length co53 : Value).ownBlock ∧ k_ ≠ gb942)) k_ ∧ some k_ ≠ (v983 : Value).ownBlock)) (HO_0.out) (fun k_ hk => ⟨⟨hk.1.1, ⟨hk.1.2.1, ⟨hk.1.2.2.1, hk.1.2.2.2⟩⟩⟩, hk.2⟩))))
          (case aB => exact (bel_ HB.out))
          (case aF => exact (fun k_ hk => ⟨Kd.fresh' (Kd.R_lt (R_ HO_943003.out)) k_ hk, Kd.fresh' (Kd.R_lt (R_ HO_943004.out)) k_ hk, Kd.fresh' (Kd.N_lt (N_ HO976.out)) k_ hk, Kd.freshB (g := gb942) (o := .cells #[.string x943000_3, .string x943001_3, .string x943002_3, .slice Ao42 x943003_3.length co42, .slice Ao43 x943004_3.length co43] 28 (0, 0)) (blk_ BK942.out) k_ hk⟩))
          (case aO => exact (N_ HO984.out))
          (case aS => exact (below_size (bel_ HB.out)))
          (case aL => have := LMc37.out; omega)
          intro v986 w59 ho hb hg hat
          rw [← Ny985.out] at ho
          have n0_ := am_ (Kd.N_afterv (ok := (fun k_ => some k_ ≠ (.slice Ao42 x943003_3.length co42 : Value).ownBlock ∧ some k_ ≠ (.slice Ao43 x943004_3.length co43 : Value).ownBlock ∧ some k_ ≠ (.slice Ao53 y974.length co53 : Value).ownBlock ∧ k_ ≠ gb942)) (N_ HO_0.out) hg hat)
          have n1_ := am_ (Kd.R_over' (R_ HO_943003.out) (Kd.N_typed (N_ HO984.out)) (by decide) hg)
          have n2_ := am_ (Kd.R_over' (R_ HO_943004.out) (Kd.N_typed (N_ HO984.out)) (by decide) hg)
          have n3_ := am_ (blk_grown (g := gb942) (o := .cells #[.string x943000_3, .string x943001_3, .string x943002_3, .slice Ao42 x943003_3.length co42, .slice Ao43 x943004_3.length co43] 28 (0, 0)) (blk_ BK942.out) hg (Kd.N_ne HO984.out BK942.out (by decide)))
          have n4_ := am_ (Kd.V_afterv (ok := (fun k_ => some k_ ≠ (.slice Ao42 x943003_3.length co42 : Value).ownBlock ∧ some k_ ≠ (.slice Ao43 x943004_3.length co43 : Value).ownBlock ∧ some k_ ≠ (.slice Ao53 y974.length co53 : Value).ownBlock ∧ k_ ≠ gb942)) (by (with_reducible repeat (first | apply Kd.V_alloc | apply Kd.V_drewN | apply Kd.V_drew)); exact HO965.out) hg hat)
          have n5_ := am_ (Kd.V_afterv (ok := (fun k_ => some k_ ≠ (.slice Ao42 x943003_3.length co42 : Value).ownBlock ∧ some k_ ≠ (.slice Ao43 x943004_3.length co43 : Value).ownBlock ∧ some k_ ≠ (.slice Ao53 y974.length co53 : Value).ownBlock ∧ k_ ≠ gb942)) (by (with_reducible repeat (first | apply Kd.V_alloc | apply Kd.V_drewN | apply Kd.V_drew)); exact HO973.out) hg hat)
          have n6_ := am_ (Kd.N_afterv (ok := (fun k_ => some k_ ≠ (.slice Ao42 x943003_3.length co42 : Value).ownBlock ∧ some k_ ≠ (.slice Ao43 x943004_3.length co43 : Value).ownBlock ∧ k_ ≠ gb942)) (N_ HO976.out) hg hat)
          have n7_ := am_ (hb)
          have n8_ := am_ (ho)
          clear HO_0 HO_943003 HO_943004 BK942 HO965 HO973 HO976 HB HO984
          have HO_0 := n0_
          have HO_943003 := n1_
          have HO_943004 := n2_
          have BK942 := n3_
          have HO965 := n4_
          have HO973 := n5_
          have HO976 := n6_
          have HB := n7_
          have HO987 := n8_
          clear n0_ n1_ n2_ n3_ n4_ n5_ n6_ n7_ n8_ ho hb hg hat
          obtain ⟨Ao60, co60, eo60⟩ := Kd.N_slice HO987.out
          (first | subst eo60 | (injection eo60 with f1_ f2_ f3_; have f4_ := f1_.symm; have f5_ := f3_.symm; clear f1_ f2_ f3_; subst f4_; subst f5_))
          refine hK.out _ _ ⟨(blk_cell BK942.out 0).trans rfl, (blk_cell BK942.out 1).trans rfl, (blk_cell BK942.out 2).trans rfl, (blk_cell BK942.out 3).trans rfl, (blk_cell BK942.out 4).trans rfl⟩ (fun hHeld => ?_)
          clear hK K
          refine norm_ (a' := ?_) ?_ ?_
          rotate_left
          ·show Act.put _ (some 58) _ = _
           simp only [Act.put, sx_, s0_, s1_, i64_w, i32_w]
           rfl
          refine one_ (i := 6) (N := some 60) #[true, true, true, true, true, true, true, false, false, false, false, false] rfl rfl (one_of HT_.out kr_) (by decide) (fun K hK => ?_)
          refine goes_ Tryd.func21 kr_ rfl #[.slice Ao60 y985.length co60, .agg #[.string x943000_3, .string x943001_3, .string x943002_3, .slice Ao42 x943003_3.length co42, .slice Ao43 x943004_3.length co43]] (by rfl) rfl rfl rl_ ?_
          with_reducible refine (rule_First.calls kj3 _ _ y985 x943000_3 x943001_3 x943002_3 _ _ x943003_3 _ _ x943004_3 t988 t989 _ ?side1 ?side2 ?side3 ?side4 ?side5 ?side6 A38.out).mono ?_
          (case side1 => exact C_ (Kd.N_reads' HO987.out).2.2)
          (case side2 => exact (Kd.N_reads' HO987.out).2.1)
          (case side3 => exact C_ (Kd.R_reads' HO_943003.out).2.2)
          (case side4 => exact (Kd.R_reads' HO_943003.out).2.1)
          (case side5 => exact C_ (Kd.R_reads' HO_943004.out).2.2)
          (case side6 => exact (Kd.R_reads' HO_943004.out).2.1)
          rintro e w61 ⟨rfl, hb⟩
          refine ⟨_, rfl, ?_⟩
          have n0_ := am_ (Kd.N_below (N_ HO_0.out) hb)
          have n1_ := am_ (Kd.R_below (R_ HO_943003.out) hb)
          have n2_ := am_ (Kd.R_below (R_ HO_943004.out) hb)
          have n3_ := am_ (Kd.V_below (by (with_reducible repeat (first | apply Kd.V_alloc | apply Kd.V_drewN | apply Kd.V_drew)); exact HO965.out) hb)
          have n4_ := am_ (Kd.V_below (by (with_reducible repeat (first | apply Kd.V_alloc | apply Kd.V_drewN | apply Kd.V_drew)); exact HO973.out) hb)
          have n5_ := am_ (Kd.N_below (N_ HO976.out) hb)
          have n6_ := am_ (Kd.N_below (N_ HO987.out) hb)
          have n7_ := am_ (blk_below (g := gb942) (o := .cells #[.string x943000_3, .string x943001_3, .string x943002_3, .slice Ao42 x943003_3.length co42, .slice Ao43 x943004_3.length co43] 28 (0, 0)) (blk_ BK942.out) hb)
          have n8_ := am_ (below_step (bel_ HB.out) hb)
          clear HO_0 HO_943003 HO_943004 HO965 HO973 HO976 HO987 BK942 HB
          have HO_0 := n0_
          have HO_943003 := n1_
          have HO_943004 := n2_
          have HO965 := n3_
          have HO973 := n4_
          have HO976 := n5_
          have HO987 := n6_
          have BK942 := n7_
          have HB := n8_
          clear n0_ n1_ n2_ n3_ n4_ n5_ n6_ n7_ n8_
          (try clear hb)
          (try clear hb2)
          (try clear hk)
          (try clear hi)
          refine hK.out _ _ ⟨(blk_cell BK942.out 0).trans rfl, (blk_cell BK942.out 1).trans rfl, (blk_cell BK942.out 2).trans rfl, (blk_cell BK942.out 3).trans rfl, (blk_cell BK942.out 4).trans rfl⟩ (fun hHeld => ?_)
          clear hK K
          refine norm_ (a' := ?_) ?_ ?_
          rotate_left
          ·show Act.put _ (some 60) _ = _
           simp only [Act.put, sx_, s0_, s1_, i64_w, i32_w]
           rfl
          refine pure_ (i := 7) (N := some 53) (v := ?_) (a' := ?_) #[true, true, true, true, true, true, true, true, false, false, false, false] rfl rfl (any_of HT_.out kr_) (fun _ _ _ h => h) (Or.inl ⟨by rfl, ?_⟩) ?_ ?_
          rotate_left
          ·intro w'
           go_simp
           with_reducible rfl
          rotate_left
          ·simp only [Act.put, sx_, s0_, s1_, i64_w, i32_w]
           rfl
          refine pure_ (i := 8) (N := some 61) (v := ?_) (a' := ?_) #[true, true, true, true, true, true, true, true, true, false, false, false] rfl rfl (any_of HT_.out kr_) (fun _ _ _ h => h) (Or.inl ⟨by rfl, ?_⟩) ?_ ?_
          rotate_left
          ·intro w'
           go_simp
           with_reducible rfl
          rotate_left
          ·simp only [Act.put, sx_, s0_, s1_, i64_w, i32_w]
           rfl
          refine pure_ (i := 9) (N := some 62) (v := ?_) (a' := ?_) #[true, true, true, true, true, true, true, true, true, true, false, false] rfl rfl (any_of HT_.out kr_) (fun _ _ _ h => h) (Or.inl ⟨by rfl, ?_⟩) ?_ ?_
          rotate_left
          ·intro w'
           go_simp
           with_reducible rfl
          rotate_left
          ·simp only [Act.put, sx_, s0_, s1_, i64_w, i32_w]
           rfl
          refine pure_ (i := 10) (N := some 13) (v := ?_) (a' := ?_) #[true, true, true, true, true, true, true, true, true, true, true, false] rfl rfl (any_of HT_.out kr_) (fun _ _ _ h => h) (Or.inl ⟨by rfl, ?_⟩) ?_ ?_
          rotate_left
          ·intro w'
           go_simp
           with_reducible rfl
          rotate_left
          ·simp only [Act.put, sx_, s0_, s1_, i64_w, i32_w]
           rfl
          refine pure_ (i := 11) (N := some 14) (v := ?_) (a' := ?_) #[true, true, true, true, true, true, true, true, true, true, true, true] rfl rfl (any_of HT_.out kr_) (fun _ _ _ h => h) (Or.inl ⟨by rfl, ?_⟩) ?_ ?_
          rotate_left
          ·intro w'
           go_simp
           with_reducible rfl
          rotate_left
          ·simp only [Act.put, sx_, s0_, s1_, i64_w, i32_w]
           rfl
          refine done_ (done_of HT_.out kr_) ?_
          go_upto_region 9 with (fail)
          go_cut [75] (fun v75 wc => ∃ (kq : Nat) (x75_38 : Bool), v75 = .bool x75_38 ∧ Aside0 (tolllaw06_RuleTurns.j1 kq x0_3 t955 t956 y974 t977 x75_38 = some r) ∧ Aside0 (kq ≤ kj3) ∧ Aside0 (Kd.N k26 26 wc w.heap.size (fun k_ => some k_ ≠ ((.slice Ao53 y974.length co53) : Value).ownBlock ∧ some k_ ≠ ((.slice Ao42 x943003_3.length co42) : Value).ownBlock ∧ some k_ ≠ ((.slice Ao43 x943004_3.length co43) : Value).ownBlock ∧ k_ ≠ gb942) (.slice Ao41 x0_3.length co41) x0_3) ∧ Aside0 (Kd.N k26 26 wc w.heap.size (fun k_ => some k_ ≠ ((.slice Ao42 x943003_3.length co42) : Value).ownBlock ∧ some k_ ≠ ((.slice Ao43 x943004_3.length co43) : Value).ownBlock ∧ k_ ≠ gb942) (.slice Ao53 y974.length co53) y974) ∧ Aside0 (Kd.R k49 49 wc w.heap.size (fun k_ => some k_ ≠ ((.slice Ao43 x943004_3.length co43) : Value).ownBlock) (.slice Ao42 x943003_3.length co42) x943003_3) ∧ Aside0 (Kd.R k49 49 wc w.heap.size (fun k_ => some k_ ≠ ((.slice Ao42 x943003_3.length co42) : Value).ownBlock) (.slice Ao43 x943004_3.length co43) x943004_3) ∧ Aside0 (wc.heap[gb942]? = some (.cells #[.string x943000_3, .string x943001_3, .string x943002_3, (.slice Ao42 x943003_3.length co42), (.slice Ao43 x943004_3.length co43)] 28 (0, 0))) ∧ Aside0 (Below w.heap.size w wc))
          case first =>
           have H := HC39.out
           clear HC39
           by_cases c62 : (t956 != t978) = true
           ·rw [if_pos c62] at H
            exact absurd H (by simp)
           ·rw [if_neg c62] at H
            have c62b0 : (t956 != t978) = false := by simpa using c62
            (try (have c62b1 : decide (t956 = t978) = true := by simpa using c62))
            (try (have c62b2 : (t956 == t978) = true := by simpa using c62))
            clear c62
            (first | rw [c62b0] | rw [c62b1] | rw [c62b2] | (simp only [i64_w, i32_w]; rw [c62b0]) | skip)
            by_cases c63 : (t956 != t989) = true
            ·rw [if_pos c63] at H
             exact absurd H (by simp)
            ·rw [if_neg c63] at H
             have c63b0 : (t956 != t989) = false := by simpa using c63
             (try (have c63b1 : decide (t956 = t989) = true := by simpa using c63))
             (try (have c63b2 : (t956 == t989) = true := by simpa using c63))
             clear c63
             have H' := Aside0.mk H
             clear H
             go_wp2
             go_meet
             case rel => exact ⟨_, ((t988 != t955)), sd_, H', ⟨by have := HJ3.out; first | omega | exact Nat.le_refl _⟩, ⟨by (with_reducible repeat (first | apply Kd.N_alloc | apply Kd.N_drewN | apply Kd.N_drew)); exact Kd.N_mono HO_0.out (fun _ hk => ⟨hk.1.2.2.1, ⟨hk.1.1, ⟨hk.1.2.1, hk.1.2.2.2⟩⟩⟩)⟩, ⟨by (with_reducible repeat (first | apply Kd.N_alloc | apply Kd.N_drewN | apply Kd.N_drew)); exact Kd.N_mono HO976.out (fun _ hk => ⟨hk.1.1, ⟨hk.1.2.1, hk.1.2.2⟩⟩)⟩, ⟨by (with_reducible repeat (first | apply Kd.R_alloc | apply Kd.R_drewN | apply Kd.R_drew)); exact HO_943003.out⟩, ⟨by (with_reducible repeat (first | apply Kd.R_alloc | apply Kd.R_drewN | apply Kd.R_drew)); exact HO_943004.out⟩, ⟨by (with_reducible repeat (first | refine blk_drewN ?_ _ | refine blk_drew ?_ | refine blk_alloc ?_ _)); exact BK942.out⟩, ⟨bel_ HB.out⟩⟩
          case rest =>
           clear HC39
           try clear c1
           try clear c2
           try clear p2
           try clear c3
           try clear c4
           try clear q4
           try clear c6
           try clear c21
           try clear c31
           try clear c34
           try clear c36
           try clear c37
           try clear c46
           try clear q46
           try clear q47
           try clear c62
           try clear c62b0
           try clear c62b1
           try clear c62b2
           try clear c63
           try clear c63b0
           try clear c63b1
           try clear c63b2
           try clear hcz40_0
           try clear hcz40_1
           try clear hcz40_2
           try clear hcz40_3
           try clear hcz40_4
           try clear hcz52_0
           try clear hcz52_1
           try clear hcz52_2
           try clear hcz52_3
           try clear hcz52_4
           try clear hfz40_0
           try clear hfz40_1
           try clear hfz40_2
           try clear hfz40_3
           try clear hfz40_4
           try clear hfz52_0
           try clear hfz52_1
           try clear hfz52_2
           try clear hfz52_3
           try clear hfz52_4
           try clear q046
           try clear q46
           try clear q47
           obtain ⟨kq, x75_38, rfl, HA, HJ38, HO_0, HO_10, HO_943003, HO_943004, BK942, HB⟩ := hcut
           cases kq with
           | zero => exact absurd HA.out (by simp [tolllaw06_RuleTurns.j1])
           | succ kj38 =>
            have H := HA.out
            clear HA
            simp only [tolllaw06_RuleTurns.j1] at H
            by_cases c64 : x75_38 = true
            ·subst c64
             have H1 : (none) = some r := by rw [if_pos rfl] at H; exact H
             clear H
             have H := H1
             clear H1
             exact absurd H (by simp)
            ·replace c64 := Bool.eq_false_iff.mpr c64
             subst c64
             have H1 : (if t956 = true then (if t955 < 0 then (none) else (if t955 ≥ (x0_3.length : Int) then (none) else (if t977 < 0 then (none) else (tolllaw06_RuleTurns.j2 kj38 x0_3 t955 y974 t977 (decide (t977 ≥ (x0_3.length : Int))))))) else ((tolllaw06_awake.f).bind fun t990 => (some t990))) = some r := by rw [if_neg (show ¬ (false = true) by decide)] at H; exact H
             clear H
             have H := H1
             clear H1
             by_cases c65 : t956 = true
             ·subst c65
              have H1 : (if t955 < 0 then (none) else (if t955 ≥ (x0_3.length : Int) then (none) else (if t977 < 0 then (none) else (tolllaw06_RuleTurns.j2 kj38 x0_3 t955 y974 t977 (decide (t977 ≥ (x0_3.length : Int))))))) = some r := by rw [if_pos rfl] at H; exact H
              clear H
              have H := H1
              clear H1
              have HC66 := Aside0.mk H
              clear H
              go_upto_region 13 with (fail)
              go_cut [96] (fun v96 wc => ∃ (kq : Nat) (x96_65 : Bool), v96 = .bool x96_65 ∧ Aside0 (tolllaw06_RuleTurns.j2 kq x0_3 t955 y974 t977 x96_65 = some r) ∧ Aside0 (kq ≤ kj38) ∧ Aside0 (Kd.N k26 26 wc w.heap.size (fun k_ => some k_ ≠ ((.slice Ao53 y974.length co53) : Value).ownBlock ∧ some k_ ≠ ((.slice Ao42 x943003_3.length co42) : Value).ownBlock ∧ some k_ ≠ ((.slice Ao43 x943004_3.length co43) : Value).ownBlock ∧ k_ ≠ gb942) (.slice Ao41 x0_3.length co41) x0_3) ∧ Aside0 (Kd.N k26 26 wc w.heap.size (fun k_ => some k_ ≠ ((.slice Ao42 x943003_3.length co42) : Value).ownBlock ∧ some k_ ≠ ((.slice Ao43 x943004_3.length co43) : Value).ownBlock ∧ k_ ≠ gb942) (.slice Ao53 y974.length co53) y974) ∧ Aside0 (Kd.R k49 49 wc w.heap.size (fun k_ => some k_ ≠ ((.slice Ao43 x943004_3.length co43) : Value).ownBlock) (.slice Ao42 x943003_3.length co42) x943003_3) ∧ Aside0 (Kd.R k49 49 wc w.heap.size (fun k_ => some k_ ≠ ((.slice Ao42 x943003_3.length co42) : Value).ownBlock) (.slice Ao43 x943004_3.length co43) x943004_3) ∧ Aside0 (wc.heap[gb942]? = some (.cells #[.string x943000_3, .string x943001_3, .string x943002_3, (.slice Ao42 x943003_3.length co42), (.slice Ao43 x943004_3.length co43)] 28 (0, 0))) ∧ Aside0 (Below w.heap.size w wc))
              case first =>
               have H := HC66.out
               clear HC66
               by_cases c67 : t955 < 0
               ·rw [if_pos c67] at H
                exact absurd H (by simp)
               ·rw [if_neg c67] at H
                have c67b0 : decide (t955 < 0) = false := decide_eq_false c67
                clear c67
                (first | rw [c67b0] | rw [c67b1] | rw [c67b2] | (simp only [i64_w, i32_w]; rw [c67b0]) | skip)
                by_cases c68 : t955 ≥ (x0_3.length : Int)
                ·rw [if_pos c68] at H
                 exact absurd H (by simp)
                ·rw [if_neg c68] at H
                 have c68b0 : decide ((x0_3.length : Int) ≤ t955) = false := decide_eq_false c68
                 clear c68
                 by_cases c69 : t977 < 0
                 ·rw [if_pos c69] at H
                  exact absurd H (by simp)
                 ·rw [if_neg c69] at H
                  have c69b0 : decide (t977 < 0) = false := decide_eq_false c69
                  clear c69
                  have H' := Aside0.mk H
                  clear H
                  go_wp2
                  go_meet
                  case rel => exact ⟨_, (decide (t977 ≥ (x0_3.length : Int))), sd_, H', ⟨by have := HJ3.out; have := HJ38.out; first | omega | exact Nat.le_refl _⟩, ⟨by (with_reducible repeat (first | apply Kd.N_alloc | apply Kd.N_drewN | apply Kd.N_drew)); exact HO_0.out⟩, ⟨by (with_reducible repeat (first | apply Kd.N_alloc | apply Kd.N_drewN | apply Kd.N_drew)); exact HO_10.out⟩, ⟨by (with_reducible repeat (first | apply Kd.R_alloc | apply Kd.R_drewN | apply Kd.R_drew)); exact HO_943003.out⟩, ⟨by (with_reducible repeat (first | apply Kd.R_alloc | apply Kd.R_drewN | apply Kd.R_drew)); exact HO_943004.out⟩, ⟨by (with_reducible repeat (first | refine blk_drewN ?_ _ | refine blk_drew ?_ | refine blk_alloc ?_ _)); exact BK942.out⟩, ⟨bel_ HB.out⟩⟩
              case rest =>
               clear HC66
               try clear c1
               try clear c2
               try clear p2
               try clear c3
               try clear c4
               try clear q4
               try clear c6
               try clear c21
               try clear c31
               try clear c34
               try clear c36
               try clear c37
               try clear c46
               try clear q46
               try clear q47
               try clear c62
               try clear c62b0
               try clear c62b1
               try clear c62b2
               try clear c63
               try clear c63b0
               try clear c63b1
               try clear c63b2
               try clear c64
               try clear c65
               try clear c67
               try clear c67b0
               try clear c67b1
               try clear c67b2
               try clear c68
               try clear c68b0
               try clear c69
               try clear c69b0
               try clear hcz40_0
               try clear hcz40_1
               try clear hcz40_2
               try clear hcz40_3
               try clear hcz40_4
               try clear hcz52_0
               try clear hcz52_1
               try clear hcz52_2
               try clear hcz52_3
               try clear hcz52_4
               try clear hfz40_0
               try clear hfz40_1
               try clear hfz40_2
               try clear hfz40_3
               try clear hfz40_4
               try clear hfz52_0
               try clear hfz52_1
               try clear hfz52_2
               try clear hfz52_3
               try clear hfz52_4
               try clear p2
               try clear q046
               try clear q4
               try clear q46
               try clear q47
               obtain ⟨kq, x96_65, rfl, HA, HJ65, HO_0, HO_10, HO_943003, HO_943004, BK942, HB⟩ := hcut
               cases kq with
               | zero => exact absurd HA.out (by simp [tolllaw06_RuleTurns.j2])
               | succ kj65 =>
                have H := HA.out
                clear HA
                simp only [tolllaw06_RuleTurns.j2] at H
                by_cases c70 : x96_65 = true
                ·subst c70
                 have H1 : (none) = some r := by rw [if_pos rfl] at H; exact H
                 clear H
                 have H := H1
                 clear H1
                 exact absurd H (by simp)
                ·replace c70 := Bool.eq_false_iff.mpr c70
                 subst c70
                 have H1 : (if 0 ≤ t955 then (if t955 < (x0_3.length : Int) then (if 0 ≤ t977 then (if t977 < (y974.length : Int) then ((rule_Order.f ((rd_T26 x0_3 t955).f0.f0) ((rd_T26 x0_3 t955).f0.f1) ((rd_T26 x0_3 t955).f1) ((rd_T26 x0_3 t955).f2) ((rd_T26 x0_3 t955).f3) ((rd_T26 y974 t977).f0.f0) ((rd_T26 y974 t977).f0.f1) ((rd_T26 y974 t977).f1) ((rd_T26 y974 t977).f2) ((rd_T26 y974 t977).f3)).bind fun t993 => (if t993 = 0 then ((tolllaw06_awake.f).bind fun t994 => (some t994)) else (none))) else (none)) else (none)) else (none)) else (none)) = some r := by rw [if_neg (show ¬ (false = true) by decide)] at H; exact H
                 clear H
                 have H := H1
                 clear H1
                 by_cases c71 : 0 ≤ t955
                 ·rw [if_pos c71] at H
                  have c71b0 : decide (0 ≤ t955) = true := decide_eq_true c71
                  clear c71
                  by_cases c72 : t955 < (x0_3.length : Int)
                  ·rw [if_pos c72] at H
                   have c72b0 : decide (t955 < (x0_3.length : Int)) = true := decide_eq_true c72
                   clear c72
                   by_cases c73 : 0 ≤ t977
                   ·rw [if_pos c73] at H
                    have c73b0 : decide (0 ≤ t977) = true := decide_eq_true c73
                    clear c73
                    by_cases c74 : t977 < (y974.length : Int)
                    ·rw [if_pos c74] at H
                     have c74b0 : decide (t977 < (y974.length : Int)) = true := decide_eq_true c74
                     clear c74
                     replace H := Option.bind_eq_some_iff.mp H
                     obtain ⟨t993, A750, H⟩ := H
                     replace H : (if t993 = 0 then ((tolllaw06_awake.f).bind fun t994 => (some t994)) else (none)) = some r := H
                     have A75 := Aside0.mk A750
                     clear A750
                     by_cases c76 : t993 = 0
                     ·rw [if_pos c76] at H
                      have c76b0 : (t993 == 0) = true := beq_iff_eq.mpr c76
                      have c76b1 : (t993 != 0) = false := bne_eq_false_iff_eq.mpr c76
                      clear c76
                      replace H := Option.bind_eq_some_iff.mp H
                      obtain ⟨t994, A770, H⟩ := H
                      replace H : (some t994) = some r := H
                      have A77 := Aside0.mk A770
                      clear A770
                      obtain rfl := Option.some.inj H
                      try go_wp2
                      have n0_ := am_ (Kd.N_drew HO_0.out)
                      have n1_ := am_ (Kd.N_drew HO_10.out)
                      have n2_ := am_ (Kd.R_drew HO_943003.out)
                      have n3_ := am_ (Kd.R_drew HO_943004.out)
                      have n4_ := am_ (blk_drew BK942.out)
                      have n5_ := am_ (below_drew1 HB.out)
                      clear HO_0 HO_10 HO_943003 HO_943004 BK942 HB
                      have HO_0 := n0_
                      have HO_10 := n1_
                      have HO_943003 := n2_
                      have HO_943004 := n3_
                      have BK942 := n4_
                      have HB := n5_
                      clear n0_ n1_ n2_ n3_ n4_ n5_
                      have p991 : 0 ≤ (t955 : Int) := of_decide_eq_true as_
                      have q991 : t955 < (x0_3.length : Int) := of_decide_eq_true as_
                      obtain ⟨ad991, A991_3, c991_3, A991_4, c991_4, e991, hx991_0, hx991_1, hx991_2, hx991_3, hx991_4, hl991_3, hi991_3, hl991_4, hi991_4⟩ := at_T26 (Kd.N_reads' HO_0.out).2.2 t955 p991 q991
                      cases e991
                      obtain ⟨ce991, hce991, hMe991, hcc991⟩ := Kd.N_get HO_0.out z26 t955 p991 (by first | exact q991 | exact of_decide_eq_true as_ | (have e_ := (Kd.N_reads' HO_0.out).1; omega))
                      obtain ⟨ua991_3, uc991_3, ua991_4, uc991_4, rfl, ul991_3, ge991_3, ul991_4, ge991_4⟩ := k26_openF hMe991
                      have hv991_3 := hcc991 3 _ rfl
                      rw [add_field _ _ 3 (by omega)] at hv991_3
                      replace hv991_3 := Option.some.inj (hv991_3.symm.trans hx991_3)
                      injection hv991_3 with hva_ hvn_ hvc_
                      rw [hva_] at ge991_3
                      rw [hvc_] at ul991_3
                      have HL991_3 := am_ (show Kd.V k49 49 _ w.heap.size _ _ ((rd_T26 x0_3 t955).f2) from Kd.V_mk ul991_3 ge991_3)
                      clear hva_ hvn_ hvc_ ge991_3 ul991_3
                      have hv991_4 := hcc991 4 _ rfl
                      rw [add_field _ _ 4 (by omega)] at hv991_4
                      replace hv991_4 := Option.some.inj (hv991_4.symm.trans hx991_4)
                      injection hv991_4 with hva_ hvn_ hvc_
                      rw [hva_] at ge991_4
                      rw [hvc_] at ul991_4
                      have HL991_4 := am_ (show Kd.V k49 49 _ w.heap.size _ _ ((rd_T26 x0_3 t955).f3) from Kd.V_mk ul991_4 ge991_4)
                      clear hva_ hvn_ hvc_ ge991_4 ul991_4 hcc991 hce991
                      have HR991_3 := Aside0.mk hi991_3
                      have HC991_3 := Aside0.mk hl991_3
                      clear hi991_3 hl991_3
                      have HR991_4 := Aside0.mk hi991_4
                      have HC991_4 := Aside0.mk hl991_4
                      clear hi991_4 hl991_4
                      replace p991 := eq_true p991
                      replace q991 := eq_true q991
                      have p992 : 0 ≤ (t977 : Int) := of_decide_eq_true as_
                      have q992 : t977 < (y974.length : Int) := of_decide_eq_true as_
                      obtain ⟨ad992, A992_3, c992_3, A992_4, c992_4, e992, hx992_0, hx992_1, hx992_2, hx992_3, hx992_4, hl992_3, hi992_3, hl992_4, hi992_4⟩ := at_T26 (Kd.N_reads' HO_10.out).2.2 t977 p992 q992
                      cases e992
                      obtain ⟨ce992, hce992, hMe992, hcc992⟩ := Kd.N_get HO_10.out z26 t977 p992 (by first | exact q992 | exact of_decide_eq_true as_ | (have e_ := (Kd.N_reads' HO_10.out).1; omega))
                      obtain ⟨ua992_3, uc992_3, ua992_4, uc992_4, rfl, ul992_3, ge992_3, ul992_4, ge992_4⟩ := k26_openF hMe992
                      have hv992_3 := hcc992 3 _ rfl
                      rw [add_field _ _ 3 (by omega)] at hv992_3
                      replace hv992_3 := Option.some.inj (hv992_3.symm.trans hx992_3)
                      injection hv992_3 with hva_ hvn_ hvc_
                      rw [hva_] at ge992_3
                      rw [hvc_] at ul992_3
                      have HL992_3 := am_ (show Kd.V k49 49 _ w.heap.size _ _ ((rd_T26 y974 t977).f2) from Kd.V_mk ul992_3 ge992_3)
                      clear hva_ hvn_ hvc_ ge992_3 ul992_3
                      have hv992_4 := hcc992 4 _ rfl
                      rw [add_field _ _ 4 (by omega)] at hv992_4
                      replace hv992_4 := Option.some.inj (hv992_4.symm.trans hx992_4)
                      injection hv992_4 with hva_ hvn_ hvc_
                      rw [hva_] at ge992_4
                      rw [hvc_] at ul992_4
                      have HL992_4 := am_ (show Kd.V k49 49 _ w.heap.size _ _ ((rd_T26 y974 t977).f3) from Kd.V_mk ul992_4 ge992_4)
                      clear hva_ hvn_ hvc_ ge992_4 ul992_4 hcc992 hce992
                      have HR992_3 := Aside0.mk hi992_3
                      have HC992_3 := Aside0.mk hl992_3
                      clear hi992_3 hl992_3
                      have HR992_4 := Aside0.mk hi992_4
                      have HC992_4 := Aside0.mk hl992_4
                      clear hi992_4 hl992_4
                      replace p992 := eq_true p992
                      replace q992 := eq_true q992
                      refine start_ (n := 14) (S := fun w' => w'.cell? (ad991.add ((t955).toNat * 5)) = some (.int .i64 ((rd_T26 x0_3 t955).f0.f0)) ∧ w'.cell? ⟨(ad991.add ((t955).toNat * 5)).block, (ad991.add ((t955).toNat * 5)).off + 1, none⟩ = some (.string ((rd_T26 x0_3 t955).f0.f1)) ∧ w'.cell? ⟨(ad991.add ((t955).toNat * 5)).block, (ad991.add ((t955).toNat * 5)).off + 2, none⟩ = some (.string ((rd_T26 x0_3 t955).f1)) ∧ w'.cell? ⟨(ad991.add ((t955).toNat * 5)).block, (ad991.add ((t955).toNat * 5)).off + 3, none⟩ = some (.slice A991_3 ((rd_T26 x0_3 t955).f2).length c991_3) ∧ w'.cell? ⟨(ad991.add ((t955).toNat * 5)).block, (ad991.add ((t955).toNat * 5)).off + 4, none⟩ = some (.slice A991_4 ((rd_T26 x0_3 t955).f3).length c991_4) ∧ w'.cell? (ad992.add ((t977).toNat * 5)) = some (.int .i64 ((rd_T26 y974 t977).f0.f0)) ∧ w'.cell? ⟨(ad992.add ((t977).toNat * 5)).block, (ad992.add ((t977).toNat * 5)).off + 1, none⟩ = some (.string ((rd_T26 y974 t977).f0.f1)) ∧ w'.cell? ⟨(ad992.add ((t977).toNat * 5)).block, (ad992.add ((t977).toNat * 5)).off + 2, none⟩ = some (.string ((rd_T26 y974 t977).f1)) ∧ w'.cell? ⟨(ad992.add ((t977).toNat * 5)).block, (ad992.add ((t977).toNat * 5)).off + 3, none⟩ = some (.slice A992_3 ((rd_T26 y974 t977).f2).length c992_3) ∧ w'.cell? ⟨(ad992.add ((t977).toNat * 5)).block, (ad992.add ((t977).toNat * 5)).off + 4, none⟩ = some (.slice A992_4 ((rd_T26 y974 t977).f3).length c992_4)) (ds := []) #[false, false, false, false, false, false, false, false, false, false, false, false, false, false] kr_ rfl rfl ⟨hx991_0, hx991_1, hx991_2, hx991_3, hx991_4, hx992_0, hx992_1, hx992_2, hx992_3, hx992_4⟩ (fun hHeld => ?_); refine with_tabW tolllaw06_RuleTurns.tab15 tolllaw06_RuleTurns.bits15 (fun HT_ HW_ => ?_)
                      generalize wc.drew = w78 at HO_0 HO_10 HO_943003 HO_943004 BK942 HB HL991_3 HL991_4 HL992_3 HL992_4 HR991_3 HR991_4 HR992_3 HR992_4 hx991_0 hx991_1 hx991_2 hx991_3 hx991_4 hx992_0 hx992_1 hx992_2 hx992_3 hx992_4 hHeld ⊢
                      refine pure_ (i := 0) (N := some 97) (v := ?_) (a' := ?_) #[true, false, false, false, false, false, false, false, false, false, false, false, false, false] rfl rfl (any_of HT_.out kr_) (fun _ _ _ h => h) (Or.inl ⟨by rfl, ?_⟩) ?_ ?_
                      rotate_left
                      ·intro w'
                       go_simp
                       with_reducible rfl
                      rotate_left
                      ·simp only [Act.put, sx_, s0_, s1_, i64_w, i32_w]
                       rfl
                      refine pure_ (i := 1) (N := some 98) (v := ?_) (a' := ?_) #[true, true, false, false, false, false, false, false, false, false, false, false, false, false] rfl rfl (any_of HT_.out kr_) (fun _ _ _ h => h) (Or.inl ⟨by rfl, ?_⟩) ?_ ?_
                      rotate_left
                      ·intro w'
                       go_simp
                       with_reducible rfl
                      rotate_left
                      ·simp only [Act.put, sx_, s0_, s1_, i64_w, i32_w]
                       rfl
                      refine pure_ (i := 2) (N := some 99) (v := ?_) (a' := ?_) #[true, true, true, false, false, false, false, false, false, false, false, false, false, false] rfl rfl (any_of HT_.out kr_) (fun _ _ _ h => h) (Or.inl ⟨by rfl, ?_⟩) ?_ ?_
                      rotate_left
                      ·intro w'
                       go_simp
                       with_reducible rfl
                      rotate_left
                      ·simp only [Act.put, sx_, s0_, s1_, i64_w, i32_w]
                       rfl
                      refine pure_ (i := 4) (N := some 101) (v := ?_) (a' := ?_) #[true, true, true, false, true, false, false, false, false, false, false, false, false, false] rfl rfl (any_of HT_.out kr_) (fun _ _ _ h => h) (Or.inl ⟨by rfl, ?_⟩) ?_ ?_
                      rotate_left
                      ·intro w'
                       go_simp
                       with_reducible rfl
                      rotate_left
                      ·simp only [Act.put, sx_, s0_, s1_, i64_w, i32_w]
                       rfl
                      refine pure_ (i := 5) (N := some 102) (v := ?_) (a' := ?_) #[true, true, true, false, true, true, false, false, false, false, false, false, false, false] rfl rfl (any_of HT_.out kr_) (fun _ _ _ h => h) (Or.inl ⟨by rfl, ?_⟩) ?_ ?_
                      rotate_left
                      ·intro w'
                       go_simp
                       with_reducible rfl
                      rotate_left
                      ·simp only [Act.put, sx_, s0_, s1_, i64_w, i32_w]
                       rfl
                      refine pure_ (i := 6) (N := some 103) (v := ?_) (a' := ?_) #[true, true, true, false, true, true, true, false, false, false, false, false, false, false] rfl rfl (any_of HT_.out kr_) (fun _ _ _ h => h) (Or.inl ⟨by rfl, ?_⟩) ?_ ?_
                      rotate_left
                      ·intro w'
                       go_simp
                       with_reducible rfl
                      rotate_left
                      ·simp only [Act.put, sx_, s0_, s1_, i64_w, i32_w]
                       rfl
                      refine take_ (i := 3) (N := some 100) (v := ?_) (a' := ?_) #[true, true, true, true, true, true, true, false, false, false, false, false, false, false] rfl rfl (take_ofW HT_.out HW_.out kr_) (fun _ _ _ h => h) (Or.inl ⟨by rfl, ?_⟩) hHeld ?_ ?_
                      rotate_left
                      ·rintro w' ⟨s0, s1, s2, s3, s4, s5, s6, s7, s8, s9⟩
                       go_simp
                       with_reducible rfl
                      rotate_left
                      ·simp only [Act.put, sx_, s0_, s1_, i64_w, i32_w]
                       rfl
                      refine take_ (i := 7) (N := some 104) (v := ?_) (a' := ?_) #[true, true, true, true, true, true, true, true, false, false, false, false, false, false] rfl rfl (take_ofW HT_.out HW_.out kr_) (fun _ _ _ h => h) (Or.inl ⟨by rfl, ?_⟩) hHeld ?_ ?_
                      rotate_left
                      ·rintro w' ⟨s0, s1, s2, s3, s4, s5, s6, s7, s8, s9⟩
                       go_simp
                       with_reducible rfl
                      rotate_left
                      ·simp only [Act.put, sx_, s0_, s1_, i64_w, i32_w]
                       rfl
                      refine one_ (i := 8) (N := some 105) #[true, true, true, true, true, true, true, true, true, false, false, false, false, false] rfl rfl (one_of HT_.out kr_) (by decide) (fun K hK => ?_)
                      refine goes_ Tryd.func19 kr_ rfl #[.agg #[.int .i64 ((rd_T26 x0_3 t955).f0.f0), .string ((rd_T26 x0_3 t955).f0.f1), .string ((rd_T26 x0_3 t955).f1), .slice A991_3 ((rd_T26 x0_3 t955).f2).length c991_3, .slice A991_4 ((rd_T26 x0_3 t955).f3).length c991_4], .agg #[.int .i64 ((rd_T26 y974 t977).f0.f0), .string ((rd_T26 y974 t977).f0.f1), .string ((rd_T26 y974 t977).f1), .slice A992_3 ((rd_T26 y974 t977).f2).length c992_3, .slice A992_4 ((rd_T26 y974 t977).f3).length c992_4]] (by rfl) rfl rfl rl_ ?_
                      with_reducible refine (rule_Order.calls ((rd_T26 x0_3 t955).f0.f0) ((rd_T26 x0_3 t955).f0.f1) ((rd_T26 x0_3 t955).f1) _ _ ((rd_T26 x0_3 t955).f2) _ _ ((rd_T26 x0_3 t955).f3) ((rd_T26 y974 t977).f0.f0) ((rd_T26 y974 t977).f0.f1) ((rd_T26 y974 t977).f1) _ _ ((rd_T26 y974 t977).f2) _ _ ((rd_T26 y974 t977).f3) t993 _ ?side1 ?side2 ?side3 ?side4 ?side5 ?side6 ?side7 ?side8 A75.out).mono ?_
                      (case side1 => repeat (first | exact (by repeat (first | (with_reducible exact HR991_3.out) | (with_reducible refine Kd.C_alloc ?_ _) | (with_reducible refine Kd.C_drewN ?_ _) | (with_reducible refine Kd.C_drew ?_) | exact HR991_3.out)) | (with_reducible refine Kd.C_alloc ?_ _) | (with_reducible refine Kd.C_drewN ?_ _) | (with_reducible refine Kd.C_drew ?_)))
                      (case side2 => exact HC991_3.out)
                      (case side3 => repeat (first | exact (by repeat (first | (with_reducible exact HR991_4.out) | (with_reducible refine Kd.C_alloc ?_ _) | (with_reducible refine Kd.C_drewN ?_ _) | (with_reducible refine Kd.C_drew ?_) | exact HR991_4.out)) | (with_reducible refine Kd.C_alloc ?_ _) | (with_reducible refine Kd.C_drewN ?_ _) | (with_reducible refine Kd.C_drew ?_)))
                      (case side4 => exact HC991_4.out)
                      (case side5 => repeat (first | exact (by repeat (first | (with_reducible exact HR992_3.out) | (with_reducible refine Kd.C_alloc ?_ _) | (with_reducible refine Kd.C_drewN ?_ _) | (with_reducible refine Kd.C_drew ?_) | exact HR992_3.out)) | (with_reducible refine Kd.C_alloc ?_ _) | (with_reducible refine Kd.C_drewN ?_ _) | (with_reducible refine Kd.C_drew ?_)))
                      (case side6 => exact HC992_3.out)
                      (case side7 => repeat (first | exact (by repeat (first | (with_reducible exact HR992_4.out) | (with_reducible refine Kd.C_alloc ?_ _) | (with_reducible refine Kd.C_drewN ?_ _) | (with_reducible refine Kd.C_drew ?_) | exact HR992_4.out)) | (with_reducible refine Kd.C_alloc ?_ _) | (with_reducible refine Kd.C_drewN ?_ _) | (with_reducible refine Kd.C_drew ?_)))
                      (case side8 => exact HC992_4.out)
                      rintro e w79 ⟨rfl, hb⟩
                      have HS0_ := (hb.cell (World.block_lt_of_cell? _ _ (hHeld.1))).trans (hHeld.1)
                      have HS1_ := (hb.cell (World.block_lt_of_cell? _ _ (hHeld.2.1))).trans (hHeld.2.1)
                      have HS2_ := (hb.cell (World.block_lt_of_cell? _ _ (hHeld.2.2.1))).trans (hHeld.2.2.1)
                      have HS3_ := (hb.cell (World.block_lt_of_cell? _ _ (hHeld.2.2.2.1))).trans (hHeld.2.2.2.1)
                      have HS4_ := (hb.cell (World.block_lt_of_cell? _ _ (hHeld.2.2.2.2.1))).trans (hHeld.2.2.2.2.1)
                      have HS5_ := (hb.cell (World.block_lt_of_cell? _ _ (hHeld.2.2.2.2.2.1))).trans (hHeld.2.2.2.2.2.1)
                      have HS6_ := (hb.cell (World.block_lt_of_cell? _ _ (hHeld.2.2.2.2.2.2.1))).trans (hHeld.2.2.2.2.2.2.1)
                      have HS7_ := (hb.cell (World.block_lt_of_cell? _ _ (hHeld.2.2.2.2.2.2.2.1))).trans (hHeld.2.2.2.2.2.2.2.1)
                      have HS8_ := (hb.cell (World.block_lt_of_cell? _ _ (hHeld.2.2.2.2.2.2.2.2.1))).trans (hHeld.2.2.2.2.2.2.2.2.1)
                      have HS9_ := (hb.cell (World.block_lt_of_cell? _ _ (hHeld.2.2.2.2.2.2.2.2.2))).trans (hHeld.2.2.2.2.2.2.2.2.2)
                      refine ⟨_, rfl, ?_⟩
                      have n0_ := am_ (Kd.N_below (N_ HO_0.out) hb)
                      have n1_ := am_ (Kd.N_below (N_ HO_10.out) hb)
                      have n2_ := am_ (Kd.R_below (R_ HO_943003.out) hb)
                      have n3_ := am_ (Kd.R_below (R_ HO_943004.out) hb)
                      have n4_ := am_ (Kd.V_below (by (with_reducible repeat (first | apply Kd.V_alloc | apply Kd.V_drewN | apply Kd.V_drew)); exact HL991_3.out) hb)
                      have n5_ := am_ (Kd.V_below (by (with_reducible repeat (first | apply Kd.V_alloc | apply Kd.V_drewN | apply Kd.V_drew)); exact HL991_4.out) hb)
                      have n6_ := am_ (Kd.V_below (by (with_reducible repeat (first | apply Kd.V_alloc | apply Kd.V_drewN | apply Kd.V_drew)); exact HL992_3.out) hb)
                      have n7_ := am_ (Kd.V_below (by (with_reducible repeat (first | apply Kd.V_alloc | apply Kd.V_drewN | apply Kd.V_drew)); exact HL992_4.out) hb)
                      have n8_ := am_ (blk_below (g := gb942) (o := .cells #[.string x943000_3, .string x943001_3, .string x943002_3, .slice Ao42 x943003_3.length co42, .slice Ao43 x943004_3.length co43] 28 (0, 0)) (blk_ BK942.out) hb)
                      have n9_ := am_ (Kd.C_below (by repeat (first | (with_reducible exact HR991_3.out) | (with_reducible refine Kd.C_alloc ?_ _) | (with_reducible refine Kd.C_drewN ?_ _) | (with_reducible refine Kd.C_drew ?_) | exact HR991_3.out)) hb)
                      have n10_ := am_ (Kd.C_below (by repeat (first | (with_reducible exact HR991_4.out) | (with_reducible refine Kd.C_alloc ?_ _) | (with_reducible refine Kd.C_drewN ?_ _) | (with_reducible refine Kd.C_drew ?_) | exact HR991_4.out)) hb)
                      have n11_ := am_ (Kd.C_below (by repeat (first | (with_reducible exact HR992_3.out) | (with_reducible refine Kd.C_alloc ?_ _) | (with_reducible refine Kd.C_drewN ?_ _) | (with_reducible refine Kd.C_drew ?_) | exact HR992_3.out)) hb)
                      have n12_ := am_ (Kd.C_below (by repeat (first | (with_reducible exact HR992_4.out) | (with_reducible refine Kd.C_alloc ?_ _) | (with_reducible refine Kd.C_drewN ?_ _) | (with_reducible refine Kd.C_drew ?_) | exact HR992_4.out)) hb)
                      have n13_ := am_ (below_step (bel_ HB.out) hb)
                      clear HO_0 HO_10 HO_943003 HO_943004 HL991_3 HL991_4 HL992_3 HL992_4 BK942 HR991_3 HR991_4 HR992_3 HR992_4 HB
                      have HO_0 := n0_
                      have HO_10 := n1_
                      have HO_943003 := n2_
                      have HO_943004 := n3_
                      have HL991_3 := n4_
                      have HL991_4 := n5_
                      have HL992_3 := n6_
                      have HL992_4 := n7_
                      have BK942 := n8_
                      have HR991_3 := n9_
                      have HR991_4 := n10_
                      have HR992_3 := n11_
                      have HR992_4 := n12_
                      have HB := n13_
                      clear n0_ n1_ n2_ n3_ n4_ n5_ n6_ n7_ n8_ n9_ n10_ n11_ n12_ n13_
                      (try clear hb)
                      (try clear hb2)
                      (try clear hk)
                      (try clear hi)
                      refine hK.out _ _ ⟨HS0_, HS1_, HS2_, HS3_, HS4_, HS5_, HS6_, HS7_, HS8_, HS9_⟩ (fun hHeld => ?_)
                      clear hK K
                      refine norm_ (a' := ?_) ?_ ?_
                      rotate_left
                      ·show Act.put _ (some 105) _ = _
                       simp only [Act.put, sx_, s0_, s1_, i64_w, i32_w]
                       rfl
                      refine pure_ (i := 9) (N := some 106) (v := ?_) (a' := ?_) #[true, true, true, true, true, true, true, true, true, true, false, false, false, false] rfl rfl (any_of HT_.out kr_) (fun _ _ _ h => h) (Or.inl ⟨by rfl, ?_⟩) ?_ ?_
                      rotate_left
                      ·intro w'
                       go_simp
                       with_reducible rfl
                      rotate_left
                      ·simp only [Act.put, sx_, s0_, s1_, i64_w, i32_w]
                       rfl
                      refine pure_ (i := 10) (N := some 107) (v := ?_) (a' := ?_) #[true, true, true, true, true, true, true, true, true, true, true, false, false, false] rfl rfl (any_of HT_.out kr_) (fun _ _ _ h => h) (Or.inl ⟨by rfl, ?_⟩) ?_ ?_
                      rotate_left
                      ·intro w'
                       go_simp
                       with_reducible rfl
                      rotate_left
                      ·simp only [Act.put, sx_, s0_, s1_, i64_w, i32_w]
                       rfl
                      refine one_ (i := 11) (N := some 108) #[true, true, true, true, true, true, true, true, true, true, true, true, false, false] rfl rfl (one_of HT_.out kr_) (by decide) (fun K hK => ?_)
                      refine goes_ Tryd.func18 kr_ rfl #[] (by rfl) rfl rfl rl_ ?_
                      with_reducible refine (tolllaw06_awake.calls  t994 _ A77.out).mono ?_
                      rintro e w80 ⟨rfl, hb⟩
                      have HS0_ := (hb.cell (World.block_lt_of_cell? _ _ (hHeld.1))).trans (hHeld.1)
                      have HS1_ := (hb.cell (World.block_lt_of_cell? _ _ (hHeld.2.1))).trans (hHeld.2.1)
                      have HS2_ := (hb.cell (World.block_lt_of_cell? _ _ (hHeld.2.2.1))).trans (hHeld.2.2.1)
                      have HS3_ := (hb.cell (World.block_lt_of_cell? _ _ (hHeld.2.2.2.1))).trans (hHeld.2.2.2.1)
                      have HS4_ := (hb.cell (World.block_lt_of_cell? _ _ (hHeld.2.2.2.2.1))).trans (hHeld.2.2.2.2.1)
                      have HS5_ := (hb.cell (World.block_lt_of_cell? _ _ (hHeld.2.2.2.2.2.1))).trans (hHeld.2.2.2.2.2.1)
                      have HS6_ := (hb.cell (World.block_lt_of_cell? _ _ (hHeld.2.2.2.2.2.2.1))).trans (hHeld.2.2.2.2.2.2.1)
                      have HS7_ := (hb.cell (World.block_lt_of_cell? _ _ (hHeld.2.2.2.2.2.2.2.1))).trans (hHeld.2.2.2.2.2.2.2.1)
                      have HS8_ := (hb.cell (World.block_lt_of_cell? _ _ (hHeld.2.2.2.2.2.2.2.2.1))).trans (hHeld.2.2.2.2.2.2.2.2.1)
                      have HS9_ := (hb.cell (World.block_lt_of_cell? _ _ (hHeld.2.2.2.2.2.2.2.2.2))).trans (hHeld.2.2.2.2.2.2.2.2.2)
                      refine ⟨_, rfl, ?_⟩
                      have n0_ := am_ (Kd.N_below (N_ HO_0.out) hb)
                      have n1_ := am_ (Kd.N_below (N_ HO_10.out) hb)
                      have n2_ := am_ (Kd.R_below (R_ HO_943003.out) hb)
                      have n3_ := am_ (Kd.R_below (R_ HO_943004.out) hb)
                      have n4_ := am_ (Kd.V_below (by (with_reducible repeat (first | apply Kd.V_alloc | apply Kd.V_drewN | apply Kd.V_drew)); exact HL991_3.out) hb)
                      have n5_ := am_ (Kd.V_below (by (with_reducible repeat (first | apply Kd.V_alloc | apply Kd.V_drewN | apply Kd.V_drew)); exact HL991_4.out) hb)
                      have n6_ := am_ (Kd.V_below (by (with_reducible repeat (first | apply Kd.V_alloc | apply Kd.V_drewN | apply Kd.V_drew)); exact HL992_3.out) hb)
                      have n7_ := am_ (Kd.V_below (by (with_reducible repeat (first | apply Kd.V_alloc | apply Kd.V_drewN | apply Kd.V_drew)); exact HL992_4.out) hb)
                      have n8_ := am_ (blk_below (g := gb942) (o := .cells #[.string x943000_3, .string x943001_3, .string x943002_3, .slice Ao42 x943003_3.length co42, .slice Ao43 x943004_3.length co43] 28 (0, 0)) (blk_ BK942.out) hb)
                      have n9_ := am_ (Kd.C_below (by repeat (first | (with_reducible exact HR991_3.out) | (with_reducible refine Kd.C_alloc ?_ _) | (with_reducible refine Kd.C_drewN ?_ _) | (with_reducible refine Kd.C_drew ?_) | exact HR991_3.out)) hb)
                      have n10_ := am_ (Kd.C_below (by repeat (first | (with_reducible exact HR991_4.out) | (with_reducible refine Kd.C_alloc ?_ _) | (with_reducible refine Kd.C_drewN ?_ _) | (with_reducible refine Kd.C_drew ?_) | exact HR991_4.out)) hb)
                      have n11_ := am_ (Kd.C_below (by repeat (first | (with_reducible exact HR992_3.out) | (with_reducible refine Kd.C_alloc ?_ _) | (with_reducible refine Kd.C_drewN ?_ _) | (with_reducible refine Kd.C_drew ?_) | exact HR992_3.out)) hb)
                      have n12_ := am_ (Kd.C_below (by repeat (first | (with_reducible exact HR992_4.out) | (with_reducible refine Kd.C_alloc ?_ _) | (with_reducible refine Kd.C_drewN ?_ _) | (with_reducible refine Kd.C_drew ?_) | exact HR992_4.out)) hb)
                      have n13_ := am_ (below_step (bel_ HB.out) hb)
                      clear HO_0 HO_10 HO_943003 HO_943004 HL991_3 HL991_4 HL992_3 HL992_4 BK942 HR991_3 HR991_4 HR992_3 HR992_4 HB
                      have HO_0 := n0_
                      have HO_10 := n1_
                      have HO_943003 := n2_
                      have HO_943004 := n3_
                      have HL991_3 := n4_
                      have HL991_4 := n5_
                      have HL992_3 := n6_
                      have HL992_4 := n7_
                      have BK942 := n8_
                      have HR991_3 := n9_
                      have HR991_4 := n10_
                      have HR992_3 := n11_
                      have HR992_4 := n12_
                      have HB := n13_
                      clear n0_ n1_ n2_ n3_ n4_ n5_ n6_ n7_ n8_ n9_ n10_ n11_ n12_ n13_
                      (try clear hb)
                      (try clear hb2)
                      (try clear hk)
                      (try clear hi)
                      refine hK.out _ _ ⟨HS0_, HS1_, HS2_, HS3_, HS4_, HS5_, HS6_, HS7_, HS8_, HS9_⟩ (fun hHeld => ?_)
                      clear hK K
                      refine norm_ (a' := ?_) ?_ ?_
                      rotate_left
                      ·show Act.put _ (some 108) _ = _
                       simp only [Act.put, sx_, s0_, s1_, i64_w, i32_w]
                       rfl
                      refine pure_ (i := 12) (N := some 109) (v := ?_) (a' := ?_) #[true, true, true, true, true, true, true, true, true, true, true, true, true, false] rfl rfl (any_of HT_.out kr_) (fun _ _ _ h => h) (Or.inl ⟨by rfl, ?_⟩) ?_ ?_
                      rotate_left
                      ·intro w'
                       go_simp
                       with_reducible rfl
                      rotate_left
                      ·simp only [Act.put, sx_, s0_, s1_, i64_w, i32_w]
                       rfl
                      refine pure_ (i := 13) (N := some 6) (v := ?_) (a' := ?_) #[true, true, true, true, true, true, true, true, true, true, true, true, true, true] rfl rfl (any_of HT_.out kr_) (fun _ _ _ h => h) (Or.inl ⟨by rfl, ?_⟩) ?_ ?_
                      rotate_left
                      ·intro w'
                       go_simp
                       with_reducible rfl
                      rotate_left
                      ·simp only [Act.put, sx_, s0_, s1_, i64_w, i32_w]
                       rfl
                      refine done_ (done_of HT_.out kr_) ?_
                      try go_wp2
                      go_ret
                      exact ⟨by first | rfl | (simp [errW_none, errW_some] <;> rfl) | (simp only [← hji28]; first | rfl | (simp [errW_none, errW_some] <;> rfl)) | (simp [*, errW_none, errW_some] <;> rfl), bel_ HB.out⟩
                     ·rw [if_neg c76] at H
                      exact absurd H (by simp)
                    ·rw [if_neg c74] at H
                     exact absurd H (by simp)
                   ·rw [if_neg c73] at H
                    exact absurd H (by simp)
                  ·rw [if_neg c72] at H
                   exact absurd H (by simp)
                 ·rw [if_neg c71] at H
                  exact absurd H (by simp)
             ·replace c65 := Bool.eq_false_iff.mpr c65
              subst c65
              have H1 : ((tolllaw06_awake.f).bind fun t990 => (some t990)) = some r := by rw [if_neg (show ¬ (false = true) by decide)] at H; exact H
              clear H
              have H := H1
              clear H1
              replace H := Option.bind_eq_some_iff.mp H
              obtain ⟨t990, A810, H⟩ := H
              replace H : (some t990) = some r := H
              have A81 := Aside0.mk A810
              clear A810
              obtain rfl := Option.some.inj H
              go_wp2_with (first | ((with_reducible refine gate_callee (f := 18) rfl ?_); refine goesL_ (some 78) rfl rfl Tryd.func18 kr_ rfl #[] rfl rl_ ?_; (with_reducible refine (tolllaw06_awake.calls  t990 _ A81.out).mono ?_); rintro e w82 ⟨rfl, hb⟩; refine ⟨_, rfl, ?_⟩; have n0_ := am_ (Kd.N_below (N_ HO_0.out) hb); have n1_ := am_ (Kd.N_below (N_ HO_10.out) hb); have n2_ := am_ (Kd.R_below (R_ HO_943003.out) hb); have n3_ := am_ (Kd.R_below (R_ HO_943004.out) hb); have n4_ := am_ (blk_below (g := gb942) (o := .cells #[.string x943000_3, .string x943001_3, .string x943002_3, .slice Ao42 x943003_3.length co42, .slice Ao43 x943004_3.length co43] 28 (0, 0)) (blk_ BK942.out) hb); have n5_ := am_ (below_step (bel_ HB.out) hb); clear HO_0 HO_10 HO_943003 HO_943004 BK942 HB; have HO_0 := n0_; have HO_10 := n1_; have HO_943003 := n2_; have HO_943004 := n3_; have BK942 := n4_; have HB := n5_; clear n0_ n1_ n2_ n3_ n4_ n5_; (try clear hb); (try clear hb2); (try clear hk); (try clear hi)))
              go_ret
              exact ⟨by first | rfl | (simp [errW_none, errW_some] <;> rfl) | (simp only [← hji28]; first | rfl | (simp [errW_none, errW_some] <;> rfl)) | (simp [*, errW_none, errW_some] <;> rfl), bel_ HB.out⟩
         ·rw [if_neg c37] at H
          exact absurd H (by simp)
        ·rw [if_neg c36] at H
         exact absurd H (by simp)
       ·rw [if_neg c34] at H
        exact absurd H (by simp)
      ·rw [if_neg c31] at H
       exact absurd H (by simp)
     ·rw [if_neg c30] at H
      exact absurd H (by simp)
    ·rw [if_neg c29] at H
     exact absurd H (by simp)

/-- THE ONE PURE STATEMENT of tolllaw06_RuleTurns. -/
noncomputable def tolllaw06_RuleTurns.Pure : Prop := ∀ (l0 : List (S26)) (a1_0 : ByteArray) (a1_1 : ByteArray) (a1_2 : ByteArray) (l1_3 : List (S49)) (l1_4 : List (S49)) (a2 : Int), (l0.length ≤ maxLen ∧ l0.length * 88 ≤ 140737488351232 ∧ ∀ y ∈ l0, (((Lit.int .i64 y.f0.f0).wf = true) ∧ (y.f0.f1.size ≤ 140737488351232)) ∧ (y.f1.size ≤ 140737488351232) ∧ (y.f2.length ≤ maxLen ∧ y.f2.length * 32 ≤ 140737488351232 ∧ ∀ yy ∈ y.f2, (yy.f0.size ≤ 140737488351232) ∧ (yy.f1.size ≤ 140737488351232)) ∧ (y.f3.length ≤ maxLen ∧ y.f3.length * 32 ≤ 140737488351232 ∧ ∀ yy ∈ y.f3, (yy.f0.size ≤ 140737488351232) ∧ (yy.f1.size ≤ 140737488351232))) → ((a1_0.size ≤ 140737488351232) ∧ (a1_1.size ≤ 140737488351232) ∧ (a1_2.size ≤ 140737488351232) ∧ (l1_3.length ≤ maxLen ∧ l1_3.length * 32 ≤ 140737488351232 ∧ ∀ y ∈ l1_3, (y.f0.size ≤ 140737488351232) ∧ (y.f1.size ≤ 140737488351232)) ∧ (l1_4.length ≤ maxLen ∧ l1_4.length * 32 ≤ 140737488351232 ∧ ∀ y ∈ l1_4, (y.f0.size ≤ 140737488351232) ∧ (y.f1.size ≤ 140737488351232))) → ((Lit.int .u8 a2).wf = true) → ∃ k, tolllaw06_RuleTurns.f k l0 a1_0 a1_1 a1_2 l1_3 l1_4 a2 = some true

end Go.Proofs.YtompldnifiieaaaDoor.P
