-- written by wip/tool/hprint.py of this repo: the kit's print, with contracts by hand joined; Lean checks it.
import Derived.Test.YtpmllmfamjpinaaDoorPx0
import Derived.Test.YtpmllmfamjpinaaDoorPx2
import Derived.Test.YtpmllmfamjpinaaDoorPx3
import Derived.Test.YtpmllmfamjpinaaDoorPx4
namespace Go.Proofs.YtpmllmfamjpinaaDoor.P
open Go.RowKit Go.Proofs.YtpmllmfamjpinaaDoorW.PrintWords Go.Proofs.YtpmllmfamjpinaaDoorW.PrintLast Go.Proofs.YtpmllmfamjpinaaDoorW.PrintMore
attribute [local go_sem] max2_int min2_int max_two min_two max_three min_three max_four min_four   -- for this text's walks alone
set_option linter.unusedVariables false
set_option linter.unusedSimpArgs false

/-! ### head_field: function 36 -/
def head_field.f (k : Nat) (a0 : ByteArray) : Option (ByteArray × ByteArray × Bool) := (strings_Cut.f k a0 (⟨#[58]⟩ : ByteArray)).bind fun bt177 => ((strings_Trim.f bt177.2.1 (⟨#[32]⟩ : ByteArray)).bind fun t180 => (if bt177.2.2 = true then ((pairs_Token.f k bt177.1).bind fun t182 => (if t182 = true then ((pairs_Value.f k t180).bind fun t183 => (some (bt177.1, t180, t183))) else (some (bt177.1, t180, false)))) else (some (bt177.1, t180, false))))
theorem head_field.mono : ∀ a0 k, LeO (head_field.f k a0) (head_field.f (k + 1) a0) := by
 intro a0 k
 unfold head_field.f
 repeat' first
   | (with_reducible exact pairs_Token.mono _ _)
   | (with_reducible exact pairs_Value.mono _ _)
   | (with_reducible exact strings_Cut.mono _ _ _)
   | (with_reducible exact LeO.refl _)
   | (with_reducible exact LeO.none _)
   | (with_reducible refine LeO.ite ?_ ?_)
   | (with_reducible refine LeO.bind ?_ (fun _ => ?_))
   | exact pairs_Token.mono _ _
   | exact pairs_Value.mono _ _
   | exact strings_Cut.mono _ _ _
   | exact LeO.none _
   | refine LeO.ite ?_ ?_
   | refine LeO.bind ?_ (fun _ => ?_)
def head_field.T3 : Bool × List (List Nat × List Nat) := (true, [([], []), ([], []), ([1], [1]), ([2], [2]), ([3, 2], [2, 3]), ([4, 2, 2], [2, 4]), ([2, 5], [2, 5]), ([6, 5], [6]), ([7], [7]), ([8, 7], [7, 8]), ([9, 7, 7], [7, 9]), ([7, 10], [7, 10]), ([0, 10, 0], [0]), ([11, 12, 0, 1, 2, 3, 4, 5, 6, 7, 8, 9, 10, 11, 12], [11])])
def head_field.B3 : List Nat := [0, 0, 2, 6, 14, 30, 62, 126, 254, 510, 1022, 2046, 2047, 8191]
theorem head_field.tab3 : rtab .any (opsOf Tryd.f36 3) = head_field.T3 := by kernel_rfl
theorem head_field.bits3 : waitsOk head_field.T3.2 head_field.B3 = true := by kernel_rfl
set_option maxHeartbeats 8000000 in
set_option maxRecDepth 100000 in
theorem head_field.calls (k : Nat) (a0 : ByteArray) (r1 : ByteArray) (r2 : ByteArray) (r3 : Bool) (w : World) (h : head_field.f k a0 = some (r1, r2, r3)) :
  Calls Tryd.prog 36 #[.string a0] w fun e w' => e = .returned (.tuple #[.agg #[.string r1, .string r2], .bool r3]) ∧ Below w.heap.size w w' := by
 have hu35 := Tryd.underlying35
 have HB := am_ (Below.refl w.heap.size w)
 have H : ((strings_Cut.f k a0 (⟨#[58]⟩ : ByteArray)).bind fun bt177 => ((strings_Trim.f bt177.2.1 (⟨#[32]⟩ : ByteArray)).bind fun t180 => (if bt177.2.2 = true then ((pairs_Token.f k bt177.1).bind fun t182 => (if t182 = true then ((pairs_Value.f k t180).bind fun t183 => (some (bt177.1, t180, t183))) else (some (bt177.1, t180, false)))) else (some (bt177.1, t180, false))))) = some (r1, r2, r3) := h
 clear h
 replace H := Option.bind_eq_some_iff.mp H
 obtain ⟨⟨t177, t178, t179⟩, A20, H⟩ := H
 replace H : ((strings_Trim.f t178 (⟨#[32]⟩ : ByteArray)).bind fun t180 => (if t179 = true then ((pairs_Token.f k t177).bind fun t182 => (if t182 = true then ((pairs_Value.f k t180).bind fun t183 => (some (t177, t180, t183))) else (some (t177, t180, false)))) else (some (t177, t180, false)))) = some (r1, r2, r3) := H
 have A2 := Aside0.mk A20
 clear A20
 replace H := Option.bind_eq_some_iff.mp H
 obtain ⟨t180, A30, H⟩ := H
 replace H : (if t179 = true then ((pairs_Token.f k t177).bind fun t182 => (if t182 = true then ((pairs_Value.f k t180).bind fun t183 => (some (t177, t180, t183))) else (some (t177, t180, false)))) else (some (t177, t180, false))) = some (r1, r2, r3) := H
 have A3 := Aside0.mk A30
 clear A30
 by_cases c4 : t179 = true
 ·subst c4
  have H1 : ((pairs_Token.f k t177).bind fun t182 => (if t182 = true then ((pairs_Value.f k t180).bind fun t183 => (some (t177, t180, t183))) else (some (t177, t180, false)))) = some (r1, r2, r3) := by rw [if_pos rfl] at H; exact H
  clear H
  have H := H1
  clear H1
  replace H := Option.bind_eq_some_iff.mp H
  obtain ⟨t182, A50, H⟩ := H
  replace H : (if t182 = true then ((pairs_Value.f k t180).bind fun t183 => (some (t177, t180, t183))) else (some (t177, t180, false))) = some (r1, r2, r3) := H
  have A5 := Aside0.mk A50
  clear A50
  by_cases c6 : t182 = true
  ·subst c6
   have H1 : ((pairs_Value.f k t180).bind fun t183 => (some (t177, t180, t183))) = some (r1, r2, r3) := by rw [if_pos rfl] at H; exact H
   clear H
   have H := H1
   clear H1
   replace H := Option.bind_eq_some_iff.mp H
   obtain ⟨t183, A70, H⟩ := H
   replace H : (some (t177, t180, t183)) = some (r1, r2, r3) := H
   have A7 := Aside0.mk A70
   clear A70
   simp only [Option.some.injEq, Prod.mk.injEq] at H
   obtain ⟨rfl, rfl, rfl⟩ := H
   go_enter Tryd.func36, Tryd.ntmps36
   try go_wp2_with (first | ((with_reducible refine gate_dst (N := 2) rfl ?_); refine box_event ?hg (N := 2) ?hd (cs := #[.string (⟨#[]⟩ : ByteArray), .string (⟨#[]⟩ : ByteArray)]) (t := 35) ?hr ?_; (case hd => rfl); (case hg => rfl); (case hr => first | (go_simp; done) | (go_simp; rfl)); intro gb176 hg w8 hbox hb; have n0_ := am_ (below_step (bel_ HB.out) hb); have n1_ := am_ (hbox); have n2_ := am_ ((by rw [hg]; exact (below_size (bel_ HB.out)) : w.heap.size ≤ gb176)); have n3_ := am_ ((by rw [hg]; exact (below_size (bel_ HB.out)) : w.heap.size ≤ gb176)); clear HB; have HB := n0_; have BK176 := n1_; have GW176 := n2_; have GE176 := n3_; clear n0_ n1_ n2_ n3_ hb hbox hg) | ((with_reducible refine gate_callee (f := 53) rfl ?_); refine goesL_ (some 10) rfl rfl Tryd.func53 kr_ rfl #[.string a0, .string (⟨#[58]⟩ : ByteArray)] rfl rl_ ?_; (with_reducible refine (strings_Cut.calls k a0 (⟨#[58]⟩ : ByteArray) t177 t178 true _ A2.out).mono ?_); rintro e w' ⟨rfl, ⟨nd, rfl⟩⟩; refine ⟨_, rfl, ?_⟩; (try (rw [drewN_self w8]; generalize hq_ : World.drewN w8 _ = w8; have n0_ : Aside0 (w8.heap[gb176]? = some (.cells #[.string (⟨#[]⟩ : ByteArray), .string (⟨#[]⟩ : ByteArray)] 35 (0, 0))) := ⟨by rw [← hq_]; exact (blk_ BK176.out)⟩; have n1_ : Aside0 (Below w.heap.size w w8) := ⟨by rw [← hq_]; exact (bel_ HB.out)⟩; clear BK176 HB hq_; have BK176 := n0_; have HB := n1_; clear n0_ n1_))) | ((with_reducible refine gate_callee (f := 47) rfl ?_); refine goesL_ (some 16) rfl rfl Tryd.func47 kr_ rfl #[.string t178, .string (⟨#[32]⟩ : ByteArray)] rfl rl_ ?_; (with_reducible refine (strings_Trim.calls t178 (⟨#[32]⟩ : ByteArray) t180 _ A3.out).mono ?_); rintro e w9 ⟨rfl, hb⟩; refine ⟨_, rfl, ?_⟩; have n0_ := am_ (blk_below (g := gb176) (o := .cells #[.string (⟨#[]⟩ : ByteArray), .string (⟨#[]⟩ : ByteArray)] 35 (0, 0)) (blk_ BK176.out) hb); have n1_ := am_ (below_step (bel_ HB.out) hb); clear BK176 HB; have BK176 := n0_; have HB := n1_; clear n0_ n1_; (try clear hb); (try clear hb2); (try clear hk); (try clear hi)) | ((with_reducible refine gate_dst (N := 7) rfl ?_); refine box_event ?hg (N := 7) ?hd (cs := #[.string (⟨#[]⟩ : ByteArray), .string (⟨#[]⟩ : ByteArray)]) (t := 35) ?hr ?_; (case hd => rfl); (case hg => rfl); (case hr => first | (go_simp; done) | (go_simp; rfl)); intro gb181 hg w10 hbox hb; have n0_ := am_ (blk_below (g := gb176) (o := .cells #[.string (⟨#[]⟩ : ByteArray), .string (⟨#[]⟩ : ByteArray)] 35 (0, 0)) (blk_ BK176.out) hb); have n1_ := am_ (below_step (bel_ HB.out) hb); have n2_ := am_ (hbox); have n3_ := am_ ((by rw [hg]; exact (below_size (bel_ HB.out)) : w.heap.size ≤ gb181)); have n4_ := am_ ((by rw [hg]; exact (below_size (bel_ HB.out)) : w.heap.size ≤ gb181)); have n5_ := am_ ((by rw [hg]; exact Nat.ne_of_lt (blk_lt (g := gb176) (o := .cells #[.string (⟨#[]⟩ : ByteArray), .string (⟨#[]⟩ : ByteArray)] 35 (0, 0)) (blk_ BK176.out)) : gb176 ≠ gb181)); have n6_ := am_ ((by rw [hg]; exact Nat.ne_of_gt (blk_lt (g := gb176) (o := .cells #[.string (⟨#[]⟩ : ByteArray), .string (⟨#[]⟩ : ByteArray)] 35 (0, 0)) (blk_ BK176.out)) : gb181 ≠ gb176)); clear BK176 HB; have BK176 := n0_; have HB := n1_; have BK181 := n2_; have GW181 := n3_; have GE181 := n4_; have NB176_181 := n5_; have NB181_176 := n6_; clear n0_ n1_ n2_ n3_ n4_ n5_ n6_ hb hbox hg; have hnb11 := NB181_176.out; have hnc11 := NB176_181.out; have hcz12_0 : w10.cell? ⟨gb181, 0, none⟩ = some (.string (⟨#[]⟩ : ByteArray)) := (blk_cell BK181.out 0).trans rfl; have hcz12_1 : w10.cell? ⟨gb181, 1, none⟩ = some (.string (⟨#[]⟩ : ByteArray)) := (blk_cell BK181.out 1).trans rfl; have hfz12_0 := blk_frozen BK181.out 0; have hfz12_1 := blk_frozen BK181.out 1))
   have n0_ : Aside0 (((w10.setCell ⟨gb181, 0, none⟩ (.string t177)).setCell ⟨gb181, 1, none⟩ (.string t180)).heap[gb176]? = some (.cells #[.string (⟨#[]⟩ : ByteArray), .string (⟨#[]⟩ : ByteArray)] 35 (0, 0))) := ⟨by (with_reducible repeat (first | refine blk_drewN ?_ _ | refine blk_drew ?_ | refine blk_alloc ?_ _)); refine blk_far ?_ NB176_181.out _; (with_reducible repeat (first | refine blk_drewN ?_ _ | refine blk_drew ?_ | refine blk_alloc ?_ _)); refine blk_far ?_ NB176_181.out _; (with_reducible repeat (first | refine blk_drewN ?_ _ | refine blk_drew ?_ | refine blk_alloc ?_ _)); exact BK176.out⟩
   have n1_ : Aside0 (((w10.setCell ⟨gb181, 0, none⟩ (.string t177)).setCell ⟨gb181, 1, none⟩ (.string t180)).heap[gb181]? = some (.cells #[.string t177, .string t180] 35 (0, 0))) := ⟨by (with_reducible repeat (first | refine blk_drewN ?_ _ | refine blk_drew ?_ | refine blk_alloc ?_ _)); refine blk_put (cs := #[.string t177, .string (⟨#[]⟩ : ByteArray)]) ?_ 1 _ rfl; (with_reducible repeat (first | refine blk_drewN ?_ _ | refine blk_drew ?_ | refine blk_alloc ?_ _)); refine blk_put (cs := #[.string (⟨#[]⟩ : ByteArray), .string (⟨#[]⟩ : ByteArray)]) ?_ 0 _ rfl; (with_reducible repeat (first | refine blk_drewN ?_ _ | refine blk_drew ?_ | refine blk_alloc ?_ _)); exact BK181.out⟩
   have n2_ : Aside0 (Below w.heap.size w ((w10.setCell ⟨gb181, 0, none⟩ (.string t177)).setCell ⟨gb181, 1, none⟩ (.string t180))) := ⟨bel_ HB.out⟩
   (try clear BK176)
   (try clear BK181)
   (try clear HB)
   generalize ((w10.setCell ⟨gb181, 0, none⟩ (.string t177)).setCell ⟨gb181, 1, none⟩ (.string t180)) = w13 at n0_ n1_ n2_ ⊢
   have BK176 := n0_
   have BK181 := n1_
   have HB := n2_
   clear n0_ n1_ n2_
   have n0_ := am_ (blk_drew BK176.out)
   have n1_ := am_ (blk_drew BK181.out)
   have n2_ := am_ (below_drew1 HB.out)
   clear BK176 BK181 HB
   have BK176 := n0_
   have BK181 := n1_
   have HB := n2_
   clear n0_ n1_ n2_
   refine start_ (n := 14) (S := fun w' => w'.cell? ⟨gb181, 0, none⟩ = some (.string t177) ∧ w'.cell? ⟨gb181, 1, none⟩ = some (.string t180)) (ds := []) #[false, false, false, false, false, false, false, false, false, false, false, false, false, false] kr_ rfl rfl ⟨(blk_cell BK181.out 0).trans rfl, (blk_cell BK181.out 1).trans rfl⟩ (fun hHeld => ?_); refine with_tabW head_field.tab3 head_field.bits3 (fun HT_ HW_ => ?_)
   generalize w13.drew = w14 at BK176 BK181 HB hHeld ⊢
   refine pure_ (i := 1) (N := some 19) (v := ?_) (a' := ?_) #[false, true, false, false, false, false, false, false, false, false, false, false, false, false] rfl rfl (any_of HT_.out kr_) (fun _ _ _ h => h) (Or.inl ⟨by rfl, ?_⟩) ?_ ?_
   rotate_left
   ·intro w'
    go_simp
    with_reducible rfl
   rotate_left
   ·simp only [Act.put, sx_, s0_, s1_, i64_w, i32_w]
    rfl
   refine pure_ (i := 2) (N := some 20) (v := ?_) (a' := ?_) #[false, true, true, false, false, false, false, false, false, false, false, false, false, false] rfl rfl (any_of HT_.out kr_) (fun _ _ _ h => h) (Or.inl ⟨by rfl, ?_⟩) ?_ ?_
   rotate_left
   ·intro w'
    go_simp
    with_reducible rfl
   rotate_left
   ·simp only [Act.put, sx_, s0_, s1_, i64_w, i32_w]
    rfl
   refine pure_ (i := 3) (N := some 21) (v := ?_) (a' := ?_) #[false, true, true, true, false, false, false, false, false, false, false, false, false, false] rfl rfl (any_of HT_.out kr_) (fun _ _ _ h => h) (Or.inl ⟨by rfl, ?_⟩) ?_ ?_
   rotate_left
   ·intro w'
    go_simp
    with_reducible rfl
   rotate_left
   ·simp only [Act.put, sx_, s0_, s1_, i64_w, i32_w]
    rfl
   refine take_ (i := 0) (N := some 18) (v := ?_) (a' := ?_) #[true, true, true, true, false, false, false, false, false, false, false, false, false, false] rfl rfl (take_ofW HT_.out HW_.out kr_) (fun _ _ _ h => h) (Or.inl ⟨by rfl, ?_⟩) hHeld ?_ ?_
   rotate_left
   ·rintro w' ⟨s0, s1⟩
    go_simp
    with_reducible rfl
   rotate_left
   ·simp only [Act.put, sx_, s0_, s1_, i64_w, i32_w]
    rfl
   refine take_ (i := 4) (N := some 22) (v := ?_) (a' := ?_) #[true, true, true, true, true, false, false, false, false, false, false, false, false, false] rfl rfl (take_ofW HT_.out HW_.out kr_) (fun _ _ _ h => h) (Or.inl ⟨by rfl, ?_⟩) hHeld ?_ ?_
   rotate_left
   ·rintro w' ⟨s0, s1⟩
    go_simp
    with_reducible rfl
   rotate_left
   ·simp only [Act.put, sx_, s0_, s1_, i64_w, i32_w]
    rfl
   refine one_ (i := 5) (N := some 23) #[true, true, true, true, true, true, false, false, false, false, false, false, false, false] rfl rfl (one_of HT_.out kr_) (by decide) (fun K hK => ?_)
   refine goes_ Tryd.func27 kr_ rfl #[.string t177] (by rfl) rfl rfl rl_ ?_
   with_reducible refine (pairs_Token.calls k t177 true _ A5.out).mono ?_
   rintro e w' ⟨rfl, ⟨nd, rfl⟩⟩
   refine ⟨_, rfl, ?_⟩
   refine hK.out _ _ ⟨(blk_cell BK181.out 0).trans rfl, (blk_cell BK181.out 1).trans rfl⟩ (fun hHeld => ?_)
   clear hK K
   refine norm_ (a' := ?_) ?_ ?_
   rotate_left
   ·show Act.put _ (some 23) _ = _
    simp only [Act.put, sx_, s0_, s1_, i64_w, i32_w]
    rfl
   refine pure_ (i := 6) (N := some 24) (v := ?_) (a' := ?_) #[true, true, true, true, true, true, true, false, false, false, false, false, false, false] rfl rfl (any_of HT_.out kr_) (fun _ _ _ h => h) (Or.inl ⟨by rfl, ?_⟩) ?_ ?_
   rotate_left
   ·intro w'
    go_simp
    with_reducible rfl
   rotate_left
   ·simp only [Act.put, sx_, s0_, s1_, i64_w, i32_w]
    rfl
   refine pure_ (i := 7) (N := some 25) (v := ?_) (a' := ?_) #[true, true, true, true, true, true, true, true, false, false, false, false, false, false] rfl rfl (any_of HT_.out kr_) (fun _ _ _ h => h) (Or.inl ⟨by rfl, ?_⟩) ?_ ?_
   rotate_left
   ·intro w'
    go_simp
    with_reducible rfl
   rotate_left
   ·simp only [Act.put, sx_, s0_, s1_, i64_w, i32_w]
    rfl
   refine pure_ (i := 8) (N := some 26) (v := ?_) (a' := ?_) #[true, true, true, true, true, true, true, true, true, false, false, false, false, false] rfl rfl (any_of HT_.out kr_) (fun _ _ _ h => h) (Or.inl ⟨by rfl, ?_⟩) ?_ ?_
   rotate_left
   ·intro w'
    go_simp
    with_reducible rfl
   rotate_left
   ·simp only [Act.put, sx_, s0_, s1_, i64_w, i32_w]
    rfl
   refine take_ (i := 9) (N := some 27) (v := ?_) (a' := ?_) #[true, true, true, true, true, true, true, true, true, true, false, false, false, false] rfl rfl (take_ofW HT_.out HW_.out kr_) (fun _ _ _ h => h) (Or.inl ⟨by rfl, ?_⟩) hHeld ?_ ?_
   rotate_left
   ·rintro w' ⟨s0, s1⟩
    go_simp
    with_reducible rfl
   rotate_left
   ·simp only [Act.put, sx_, s0_, s1_, i64_w, i32_w]
    rfl
   refine one_ (i := 10) (N := some 28) #[true, true, true, true, true, true, true, true, true, true, true, false, false, false] rfl rfl (one_of HT_.out kr_) (by decide) (fun K hK => ?_)
   refine goes_ Tryd.func28 kr_ rfl #[.string t180] (by rfl) rfl rfl rl_ ?_
   with_reducible refine (pairs_Value.calls k t180 t183 _ A7.out).mono ?_
   rintro e w15 ⟨rfl, hb⟩
   refine ⟨_, rfl, ?_⟩
   have n0_ := am_ (blk_below (g := gb176) (o := .cells #[.string (⟨#[]⟩ : ByteArray), .string (⟨#[]⟩ : ByteArray)] 35 (0, 0)) (blk_ BK176.out) hb)
   have n1_ := am_ (blk_below (g := gb181) (o := .cells #[.string t177, .string t180] 35 (0, 0)) (blk_ BK181.out) hb)
   have n2_ := am_ (below_step (bel_ HB.out) hb)
   clear BK176 BK181 HB
   have BK176 := n0_
   have BK181 := n1_
   have HB := n2_
   clear n0_ n1_ n2_
   (try clear hb)
   (try clear hb2)
   (try clear hk)
   (try clear hi)
   refine hK.out _ _ ⟨(blk_cell BK181.out 0).trans rfl, (blk_cell BK181.out 1).trans rfl⟩ (fun hHeld => ?_)
   clear hK K
   refine norm_ (a' := ?_) ?_ ?_
   rotate_left
   ·show Act.put _ (some 28) _ = _
    simp only [Act.put, sx_, s0_, s1_, i64_w, i32_w]
    rfl
   refine pure_ (i := 11) (N := some 29) (v := ?_) (a' := ?_) #[true, true, true, true, true, true, true, true, true, true, true, true, false, false] rfl rfl (any_of HT_.out kr_) (fun _ _ _ h => h) (Or.inl ⟨by rfl, ?_⟩) ?_ ?_
   rotate_left
   ·intro w'
    go_simp
    with_reducible rfl
   rotate_left
   ·simp only [Act.put, sx_, s0_, s1_, i64_w, i32_w]
    rfl
   refine one_ (i := 12) (N := none) #[true, true, true, true, true, true, true, true, true, true, true, true, true, false] rfl rfl (one_of HT_.out kr_) (by decide) (fun K hK => ?_)
   have hs16 : w15.cell? ⟨gb176, 0, none⟩ = some (.string (⟨#[]⟩ : ByteArray)) := (blk_cell BK176.out 0).trans rfl
   have hfs16 := blk_frozen BK176.out 0
   have hns16_1 := NB181_176.out
   have hms16_1 := NB176_181.out
   have hs17 : w15.cell? ⟨gb176, 1, none⟩ = some (.string (⟨#[]⟩ : ByteArray)) := (blk_cell BK176.out 1).trans rfl
   have hfs17 := blk_frozen BK176.out 1
   have hns17_1 := NB181_176.out
   have hms17_1 := NB176_181.out
   refine skip_ (w1 := ?_) (by rfl) rfl ?_ ?_
   rotate_left
   ·go_simp
    rfl
   refine hK.out _ _ ⟨((cell_far (p := ⟨gb176, _, none⟩) NB181_176.out _).trans (((cell_far (p := ⟨gb176, _, none⟩) NB181_176.out _).trans (hHeld.1)))), ((cell_far (p := ⟨gb176, _, none⟩) NB181_176.out _).trans (((cell_far (p := ⟨gb176, _, none⟩) NB181_176.out _).trans (hHeld.2))))⟩ (fun hHeld => ?_)
   clear hK K
   refine pure_ (i := 13) (N := some 3) (v := ?_) (a' := ?_) #[true, true, true, true, true, true, true, true, true, true, true, true, true, true] rfl rfl (any_of HT_.out kr_) (fun _ _ _ h => h) (Or.inl ⟨by rfl, ?_⟩) ?_ ?_
   rotate_left
   ·intro w'
    go_simp
    with_reducible rfl
   rotate_left
   ·simp only [Act.put, sx_, s0_, s1_, i64_w, i32_w]
    rfl
   refine done_ (done_of HT_.out kr_) ?_
   try go_wp2
   refine bodyPost_ret (results_ct rfl _ _ gb176 35 #[.string t177, .string t180] (0, 0) _ rfl (by (with_reducible repeat (first | refine blk_drewN ?_ _ | refine blk_drew ?_ | refine blk_alloc ?_ _)); refine blk_put (cs := #[.string t177, .string (⟨#[]⟩ : ByteArray)]) ?_ 1 _ rfl; (with_reducible repeat (first | refine blk_drewN ?_ _ | refine blk_drew ?_ | refine blk_alloc ?_ _)); refine blk_put (cs := #[.string (⟨#[]⟩ : ByteArray), .string (⟨#[]⟩ : ByteArray)]) ?_ 0 _ rfl; (with_reducible repeat (first | refine blk_drewN ?_ _ | refine blk_drew ?_ | refine blk_alloc ?_ _)); exact BK176.out) Tryd.underlying35 rfl kr_) rfl ?_
   exact ⟨fi_, bel_ HB.out⟩
  ·replace c6 := Bool.eq_false_iff.mpr c6
   subst c6
   have H1 : (some (t177, t180, false)) = some (r1, r2, r3) := by rw [if_neg (show ¬ (false = true) by decide)] at H; exact H
   clear H
   have H := H1
   clear H1
   simp only [Option.some.injEq, Prod.mk.injEq] at H
   obtain ⟨rfl, rfl, rfl⟩ := H
   go_enter Tryd.func36, Tryd.ntmps36
   try go_wp2_with (first | ((with_reducible refine gate_dst (N := 2) rfl ?_); refine box_event ?hg (N := 2) ?hd (cs := #[.string (⟨#[]⟩ : ByteArray), .string (⟨#[]⟩ : ByteArray)]) (t := 35) ?hr ?_; (case hd => rfl); (case hg => rfl); (case hr => first | (go_simp; done) | (go_simp; rfl)); intro gb176 hg w18 hbox hb; have n0_ := am_ (below_step (bel_ HB.out) hb); have n1_ := am_ (hbox); have n2_ := am_ ((by rw [hg]; exact (below_size (bel_ HB.out)) : w.heap.size ≤ gb176)); have n3_ := am_ ((by rw [hg]; exact (below_size (bel_ HB.out)) : w.heap.size ≤ gb176)); clear HB; have HB := n0_; have BK176 := n1_; have GW176 := n2_; have GE176 := n3_; clear n0_ n1_ n2_ n3_ hb hbox hg) | ((with_reducible refine gate_callee (f := 53) rfl ?_); refine goesL_ (some 10) rfl rfl Tryd.func53 kr_ rfl #[.string a0, .string (⟨#[58]⟩ : ByteArray)] rfl rl_ ?_; (with_reducible refine (strings_Cut.calls k a0 (⟨#[58]⟩ : ByteArray) t177 t178 true _ A2.out).mono ?_); rintro e w' ⟨rfl, ⟨nd, rfl⟩⟩; refine ⟨_, rfl, ?_⟩; (try (rw [drewN_self w18]; generalize hq_ : World.drewN w18 _ = w18; have n0_ : Aside0 (w18.heap[gb176]? = some (.cells #[.string (⟨#[]⟩ : ByteArray), .string (⟨#[]⟩ : ByteArray)] 35 (0, 0))) := ⟨by rw [← hq_]; exact (blk_ BK176.out)⟩; have n1_ : Aside0 (Below w.heap.size w w18) := ⟨by rw [← hq_]; exact (bel_ HB.out)⟩; clear BK176 HB hq_; have BK176 := n0_; have HB := n1_; clear n0_ n1_))) | ((with_reducible refine gate_callee (f := 47) rfl ?_); refine goesL_ (some 16) rfl rfl Tryd.func47 kr_ rfl #[.string t178, .string (⟨#[32]⟩ : ByteArray)] rfl rl_ ?_; (with_reducible refine (strings_Trim.calls t178 (⟨#[32]⟩ : ByteArray) t180 _ A3.out).mono ?_); rintro e w19 ⟨rfl, hb⟩; refine ⟨_, rfl, ?_⟩; have n0_ := am_ (blk_below (g := gb176) (o := .cells #[.string (⟨#[]⟩ : ByteArray), .string (⟨#[]⟩ : ByteArray)] 35 (0, 0)) (blk_ BK176.out) hb); have n1_ := am_ (below_step (bel_ HB.out) hb); clear BK176 HB; have BK176 := n0_; have HB := n1_; clear n0_ n1_; (try clear hb); (try clear hb2); (try clear hk); (try clear hi)) | ((with_reducible refine gate_dst (N := 7) rfl ?_); refine box_event ?hg (N := 7) ?hd (cs := #[.string (⟨#[]⟩ : ByteArray), .string (⟨#[]⟩ : ByteArray)]) (t := 35) ?hr ?_; (case hd => rfl); (case hg => rfl); (case hr => first | (go_simp; done) | (go_simp; rfl)); intro gb181 hg w20 hbox hb; have n0_ := am_ (blk_below (g := gb176) (o := .cells #[.string (⟨#[]⟩ : ByteArray), .string (⟨#[]⟩ : ByteArray)] 35 (0, 0)) (blk_ BK176.out) hb); have n1_ := am_ (below_step (bel_ HB.out) hb); have n2_ := am_ (hbox); have n3_ := am_ ((by rw [hg]; exact (below_size (bel_ HB.out)) : w.heap.size ≤ gb181)); have n4_ := am_ ((by rw [hg]; exact (below_size (bel_ HB.out)) : w.heap.size ≤ gb181)); have n5_ := am_ ((by rw [hg]; exact Nat.ne_of_lt (blk_lt (g := gb176) (o := .cells #[.string (⟨#[]⟩ : ByteArray), .string (⟨#[]⟩ : ByteArray)] 35 (0, 0)) (blk_ BK176.out)) : gb176 ≠ gb181)); have n6_ := am_ ((by rw [hg]; exact Nat.ne_of_gt (blk_lt (g := gb176) (o := .cells #[.string (⟨#[]⟩ : ByteArray), .string (⟨#[]⟩ : ByteArray)] 35 (0, 0)) (blk_ BK176.out)) : gb181 ≠ gb176)); clear BK176 HB; have BK176 := n0_; have HB := n1_; have BK181 := n2_; have GW181 := n3_; have GE181 := n4_; have NB176_181 := n5_; have NB181_176 := n6_; clear n0_ n1_ n2_ n3_ n4_ n5_ n6_ hb hbox hg; have hnb21 := NB181_176.out; have hnc21 := NB176_181.out; have hcz22_0 : w20.cell? ⟨gb181, 0, none⟩ = some (.string (⟨#[]⟩ : ByteArray)) := (blk_cell BK181.out 0).trans rfl; have hcz22_1 : w20.cell? ⟨gb181, 1, none⟩ = some (.string (⟨#[]⟩ : ByteArray)) := (blk_cell BK181.out 1).trans rfl; have hfz22_0 := blk_frozen BK181.out 0; have hfz22_1 := blk_frozen BK181.out 1))
   have n0_ : Aside0 (((w20.setCell ⟨gb181, 0, none⟩ (.string t177)).setCell ⟨gb181, 1, none⟩ (.string t180)).heap[gb176]? = some (.cells #[.string (⟨#[]⟩ : ByteArray), .string (⟨#[]⟩ : ByteArray)] 35 (0, 0))) := ⟨by (with_reducible repeat (first | refine blk_drewN ?_ _ | refine blk_drew ?_ | refine blk_alloc ?_ _)); refine blk_far ?_ NB176_181.out _; (with_reducible repeat (first | refine blk_drewN ?_ _ | refine blk_drew ?_ | refine blk_alloc ?_ _)); refine blk_far ?_ NB176_181.out _; (with_reducible repeat (first | refine blk_drewN ?_ _ | refine blk_drew ?_ | refine blk_alloc ?_ _)); exact BK176.out⟩
   have n1_ : Aside0 (((w20.setCell ⟨gb181, 0, none⟩ (.string t177)).setCell ⟨gb181, 1, none⟩ (.string t180)).heap[gb181]? = some (.cells #[.string t177, .string t180] 35 (0, 0))) := ⟨by (with_reducible repeat (first | refine blk_drewN ?_ _ | refine blk_drew ?_ | refine blk_alloc ?_ _)); refine blk_put (cs := #[.string t177, .string (⟨#[]⟩ : ByteArray)]) ?_ 1 _ rfl; (with_reducible repeat (first | refine blk_drewN ?_ _ | refine blk_drew ?_ | refine blk_alloc ?_ _)); refine blk_put (cs := #[.string (⟨#[]⟩ : ByteArray), .string (⟨#[]⟩ : ByteArray)]) ?_ 0 _ rfl; (with_reducible repeat (first | refine blk_drewN ?_ _ | refine blk_drew ?_ | refine blk_alloc ?_ _)); exact BK181.out⟩
   have n2_ : Aside0 (Below w.heap.size w ((w20.setCell ⟨gb181, 0, none⟩ (.string t177)).setCell ⟨gb181, 1, none⟩ (.string t180))) := ⟨bel_ HB.out⟩
   (try clear BK176)
   (try clear BK181)
   (try clear HB)
   generalize ((w20.setCell ⟨gb181, 0, none⟩ (.string t177)).setCell ⟨gb181, 1, none⟩ (.string t180)) = w23 at n0_ n1_ n2_ ⊢
   have BK176 := n0_
   have BK181 := n1_
   have HB := n2_
   clear n0_ n1_ n2_
   have n0_ := am_ (blk_drew BK176.out)
   have n1_ := am_ (blk_drew BK181.out)
   have n2_ := am_ (below_drew1 HB.out)
   clear BK176 BK181 HB
   have BK176 := n0_
   have BK181 := n1_
   have HB := n2_
   clear n0_ n1_ n2_
   refine start_ (n := 14) (S := fun w' => w'.cell? ⟨gb181, 0, none⟩ = some (.string t177) ∧ w'.cell? ⟨gb181, 1, none⟩ = some (.string t180)) (ds := []) #[false, false, false, false, false, false, false, false, false, false, false, false, false, false] kr_ rfl rfl ⟨(blk_cell BK181.out 0).trans rfl, (blk_cell BK181.out 1).trans rfl⟩ (fun hHeld => ?_); refine with_tabW head_field.tab3 head_field.bits3 (fun HT_ HW_ => ?_)
   generalize w23.drew = w24 at BK176 BK181 HB hHeld ⊢
   refine pure_ (i := 1) (N := some 19) (v := ?_) (a' := ?_) #[false, true, false, false, false, false, false, false, false, false, false, false, false, false] rfl rfl (any_of HT_.out kr_) (fun _ _ _ h => h) (Or.inl ⟨by rfl, ?_⟩) ?_ ?_
   rotate_left
   ·intro w'
    go_simp
    with_reducible rfl
   rotate_left
   ·simp only [Act.put, sx_, s0_, s1_, i64_w, i32_w]
    rfl
   refine pure_ (i := 2) (N := some 20) (v := ?_) (a' := ?_) #[false, true, true, false, false, false, false, false, false, false, false, false, false, false] rfl rfl (any_of HT_.out kr_) (fun _ _ _ h => h) (Or.inl ⟨by rfl, ?_⟩) ?_ ?_
   rotate_left
   ·intro w'
    go_simp
    with_reducible rfl
   rotate_left
   ·simp only [Act.put, sx_, s0_, s1_, i64_w, i32_w]
    rfl
   refine pure_ (i := 3) (N := some 21) (v := ?_) (a' := ?_) #[false, true, true, true, false, false, false, false, false, false, false, false, false, false] rfl rfl (any_of HT_.out kr_) (fun _ _ _ h => h) (Or.inl ⟨by rfl, ?_⟩) ?_ ?_
   rotate_left
   ·intro w'
    go_simp
    with_reducible rfl
   rotate_left
   ·simp only [Act.put, sx_, s0_, s1_, i64_w, i32_w]
    rfl
   refine take_ (i := 0) (N := some 18) (v := ?_) (a' := ?_) #[true, true, true, true, false, false, false, false, false, false, false, false, false, false] rfl rfl (take_ofW HT_.out HW_.out kr_) (fun _ _ _ h => h) (Or.inl ⟨by rfl, ?_⟩) hHeld ?_ ?_
   rotate_left
   ·rintro w' ⟨s0, s1⟩
    go_simp
    with_reducible rfl
   rotate_left
   ·simp only [Act.put, sx_, s0_, s1_, i64_w, i32_w]
    rfl
   refine take_ (i := 4) (N := some 22) (v := ?_) (a' := ?_) #[true, true, true, true, true, false, false, false, false, false, false, false, false, false] rfl rfl (take_ofW HT_.out HW_.out kr_) (fun _ _ _ h => h) (Or.inl ⟨by rfl, ?_⟩) hHeld ?_ ?_
   rotate_left
   ·rintro w' ⟨s0, s1⟩
    go_simp
    with_reducible rfl
   rotate_left
   ·simp only [Act.put, sx_, s0_, s1_, i64_w, i32_w]
    rfl
   refine one_ (i := 5) (N := some 23) #[true, true, true, true, true, true, false, false, false, false, false, false, false, false] rfl rfl (one_of HT_.out kr_) (by decide) (fun K hK => ?_)
   refine goes_ Tryd.func27 kr_ rfl #[.string t177] (by rfl) rfl rfl rl_ ?_
   with_reducible refine (pairs_Token.calls k t177 false _ A5.out).mono ?_
   rintro e w' ⟨rfl, ⟨nd, rfl⟩⟩
   refine ⟨_, rfl, ?_⟩
   refine hK.out _ _ ⟨(blk_cell BK181.out 0).trans rfl, (blk_cell BK181.out 1).trans rfl⟩ (fun hHeld => ?_)
   clear hK K
   refine norm_ (a' := ?_) ?_ ?_
   rotate_left
   ·show Act.put _ (some 23) _ = _
    simp only [Act.put, sx_, s0_, s1_, i64_w, i32_w]
    rfl
   refine pure_ (i := 6) (N := some 24) (v := ?_) (a' := ?_) #[true, true, true, true, true, true, true, false, false, false, false, false, false, false] rfl rfl (any_of HT_.out kr_) (fun _ _ _ h => h) (Or.inl ⟨by rfl, ?_⟩) ?_ ?_
   rotate_left
   ·intro w'
    go_simp
    with_reducible rfl
   rotate_left
   ·simp only [Act.put, sx_, s0_, s1_, i64_w, i32_w]
    rfl
   refine pure_ (i := 7) (N := some 25) (v := ?_) (a' := ?_) #[true, true, true, true, true, true, true, true, false, false, false, false, false, false] rfl rfl (any_of HT_.out kr_) (fun _ _ _ h => h) (Or.inl ⟨by rfl, ?_⟩) ?_ ?_
   rotate_left
   ·intro w'
    go_simp
    with_reducible rfl
   rotate_left
   ·simp only [Act.put, sx_, s0_, s1_, i64_w, i32_w]
    rfl
   refine pure_ (i := 8) (N := some 26) (v := undef) (a' := ?_) #[true, true, true, true, true, true, true, true, true, false, false, false, false, false] rfl rfl (any_of HT_.out kr_) (fun _ _ _ h => h) (Or.inr ⟨by rfl, rfl⟩) ?_ ?_
   rotate_left
   ·simp only [Act.put, sx_, s0_, s1_, i64_w, i32_w]
    rfl
   refine pure_ (i := 9) (N := some 27) (v := undef) (a' := ?_) #[true, true, true, true, true, true, true, true, true, true, false, false, false, false] rfl rfl (any_of HT_.out kr_) (fun _ _ _ h => h) (Or.inr ⟨by rfl, rfl⟩) ?_ ?_
   rotate_left
   ·simp only [Act.put, sx_, s0_, s1_, i64_w, i32_w]
    rfl
   refine pure_ (i := 10) (N := some 28) (v := undef) (a' := ?_) #[true, true, true, true, true, true, true, true, true, true, true, false, false, false] rfl rfl (any_of HT_.out kr_) (fun _ _ _ h => h) (Or.inr ⟨by rfl, rfl⟩) ?_ ?_
   rotate_left
   ·simp only [Act.put, sx_, s0_, s1_, i64_w, i32_w]
    rfl
   refine pure_ (i := 11) (N := some 29) (v := ?_) (a' := ?_) #[true, true, true, true, true, true, true, true, true, true, true, true, false, false] rfl rfl (any_of HT_.out kr_) (fun _ _ _ h => h) (Or.inl ⟨by rfl, ?_⟩) ?_ ?_
   rotate_left
   ·intro w'
    go_simp
    with_reducible rfl
   rotate_left
   ·simp only [Act.put, sx_, s0_, s1_, i64_w, i32_w]
    rfl
   refine one_ (i := 12) (N := none) #[true, true, true, true, true, true, true, true, true, true, true, true, true, false] rfl rfl (one_of HT_.out kr_) (by decide) (fun K hK => ?_)
   have hs25 : w24.cell? ⟨gb176, 0, none⟩ = some (.string (⟨#[]⟩ : ByteArray)) := (blk_cell BK176.out 0).trans rfl
   have hfs25 := blk_frozen BK176.out 0
   have hns25_1 := NB181_176.out
   have hms25_1 := NB176_181.out
   have hs26 : w24.cell? ⟨gb176, 1, none⟩ = some (.string (⟨#[]⟩ : ByteArray)) := (blk_cell BK176.out 1).trans rfl
   have hfs26 := blk_frozen BK176.out 1
   have hns26_1 := NB181_176.out
   have hms26_1 := NB176_181.out
   refine skip_ (w1 := ?_) (by rfl) rfl ?_ ?_
   rotate_left
   ·go_simp
    rfl
   refine hK.out _ _ ⟨((cell_far (p := ⟨gb176, _, none⟩) NB181_176.out _).trans (((cell_far (p := ⟨gb176, _, none⟩) NB181_176.out _).trans (hHeld.1)))), ((cell_far (p := ⟨gb176, _, none⟩) NB181_176.out _).trans (((cell_far (p := ⟨gb176, _, none⟩) NB181_176.out _).trans (hHeld.2))))⟩ (fun hHeld => ?_)
   clear hK K
   refine pure_ (i := 13) (N := some 3) (v := ?_) (a' := ?_) #[true, true, true, true, true, true, true, true, true, true, true, true, true, true] rfl rfl (any_of HT_.out kr_) (fun _ _ _ h => h) (Or.inl ⟨by rfl, ?_⟩) ?_ ?_
   rotate_left
   ·intro w'
    go_simp
    with_reducible rfl
   rotate_left
   ·simp only [Act.put, sx_, s0_, s1_, i64_w, i32_w]
    rfl
   refine done_ (done_of HT_.out kr_) ?_
   try go_wp2
   refine bodyPost_ret (results_ct rfl _ _ gb176 35 #[.string t177, .string t180] (0, 0) _ rfl (by (with_reducible repeat (first | refine blk_drewN ?_ _ | refine blk_drew ?_ | refine blk_alloc ?_ _)); refine blk_put (cs := #[.string t177, .string (⟨#[]⟩ : ByteArray)]) ?_ 1 _ rfl; (with_reducible repeat (first | refine blk_drewN ?_ _ | refine blk_drew ?_ | refine blk_alloc ?_ _)); refine blk_put (cs := #[.string (⟨#[]⟩ : ByteArray), .string (⟨#[]⟩ : ByteArray)]) ?_ 0 _ rfl; (with_reducible repeat (first | refine blk_drewN ?_ _ | refine blk_drew ?_ | refine blk_alloc ?_ _)); exact BK176.out) Tryd.underlying35 rfl kr_) rfl ?_
   exact ⟨fi_, bel_ HB.out⟩
 ·replace c4 := Bool.eq_false_iff.mpr c4
  subst c4
  have H1 : (some (t177, t180, false)) = some (r1, r2, r3) := by rw [if_neg (show ¬ (false = true) by decide)] at H; exact H
  clear H
  have H := H1
  clear H1
  simp only [Option.some.injEq, Prod.mk.injEq] at H
  obtain ⟨rfl, rfl, rfl⟩ := H
  go_enter Tryd.func36, Tryd.ntmps36
  try go_wp2_with (first | ((with_reducible refine gate_dst (N := 2) rfl ?_); refine box_event ?hg (N := 2) ?hd (cs := #[.string (⟨#[]⟩ : ByteArray), .string (⟨#[]⟩ : ByteArray)]) (t := 35) ?hr ?_; (case hd => rfl); (case hg => rfl); (case hr => first | (go_simp; done) | (go_simp; rfl)); intro gb176 hg w27 hbox hb; have n0_ := am_ (below_step (bel_ HB.out) hb); have n1_ := am_ (hbox); have n2_ := am_ ((by rw [hg]; exact (below_size (bel_ HB.out)) : w.heap.size ≤ gb176)); have n3_ := am_ ((by rw [hg]; exact (below_size (bel_ HB.out)) : w.heap.size ≤ gb176)); clear HB; have HB := n0_; have BK176 := n1_; have GW176 := n2_; have GE176 := n3_; clear n0_ n1_ n2_ n3_ hb hbox hg) | ((with_reducible refine gate_callee (f := 53) rfl ?_); refine goesL_ (some 10) rfl rfl Tryd.func53 kr_ rfl #[.string a0, .string (⟨#[58]⟩ : ByteArray)] rfl rl_ ?_; (with_reducible refine (strings_Cut.calls k a0 (⟨#[58]⟩ : ByteArray) t177 t178 false _ A2.out).mono ?_); rintro e w' ⟨rfl, ⟨nd, rfl⟩⟩; refine ⟨_, rfl, ?_⟩; (try (rw [drewN_self w27]; generalize hq_ : World.drewN w27 _ = w27; have n0_ : Aside0 (w27.heap[gb176]? = some (.cells #[.string (⟨#[]⟩ : ByteArray), .string (⟨#[]⟩ : ByteArray)] 35 (0, 0))) := ⟨by rw [← hq_]; exact (blk_ BK176.out)⟩; have n1_ : Aside0 (Below w.heap.size w w27) := ⟨by rw [← hq_]; exact (bel_ HB.out)⟩; clear BK176 HB hq_; have BK176 := n0_; have HB := n1_; clear n0_ n1_))) | ((with_reducible refine gate_callee (f := 47) rfl ?_); refine goesL_ (some 16) rfl rfl Tryd.func47 kr_ rfl #[.string t178, .string (⟨#[32]⟩ : ByteArray)] rfl rl_ ?_; (with_reducible refine (strings_Trim.calls t178 (⟨#[32]⟩ : ByteArray) t180 _ A3.out).mono ?_); rintro e w28 ⟨rfl, hb⟩; refine ⟨_, rfl, ?_⟩; have n0_ := am_ (blk_below (g := gb176) (o := .cells #[.string (⟨#[]⟩ : ByteArray), .string (⟨#[]⟩ : ByteArray)] 35 (0, 0)) (blk_ BK176.out) hb); have n1_ := am_ (below_step (bel_ HB.out) hb); clear BK176 HB; have BK176 := n0_; have HB := n1_; clear n0_ n1_; (try clear hb); (try clear hb2); (try clear hk); (try clear hi)) | ((with_reducible refine gate_dst (N := 7) rfl ?_); refine box_event ?hg (N := 7) ?hd (cs := #[.string (⟨#[]⟩ : ByteArray), .string (⟨#[]⟩ : ByteArray)]) (t := 35) ?hr ?_; (case hd => rfl); (case hg => rfl); (case hr => first | (go_simp; done) | (go_simp; rfl)); intro gb181 hg w29 hbox hb; have n0_ := am_ (blk_below (g := gb176) (o := .cells #[.string (⟨#[]⟩ : ByteArray), .string (⟨#[]⟩ : ByteArray)] 35 (0, 0)) (blk_ BK176.out) hb); have n1_ := am_ (below_step (bel_ HB.out) hb); have n2_ := am_ (hbox); have n3_ := am_ ((by rw [hg]; exact (below_size (bel_ HB.out)) : w.heap.size ≤ gb181)); have n4_ := am_ ((by rw [hg]; exact (below_size (bel_ HB.out)) : w.heap.size ≤ gb181)); have n5_ := am_ ((by rw [hg]; exact Nat.ne_of_lt (blk_lt (g := gb176) (o := .cells #[.string (⟨#[]⟩ : ByteArray), .string (⟨#[]⟩ : ByteArray)] 35 (0, 0)) (blk_ BK176.out)) : gb176 ≠ gb181)); have n6_ := am_ ((by rw [hg]; exact Nat.ne_of_gt (blk_lt (g := gb176) (o := .cells #[.string (⟨#[]⟩ : ByteArray), .string (⟨#[]⟩ : ByteArray)] 35 (0, 0)) (blk_ BK176.out)) : gb181 ≠ gb176)); clear BK176 HB; have BK176 := n0_; have HB := n1_; have BK181 := n2_; have GW181 := n3_; have GE181 := n4_; have NB176_181 := n5_; have NB181_176 := n6_; clear n0_ n1_ n2_ n3_ n4_ n5_ n6_ hb hbox hg; have hnb30 := NB181_176.out; have hnc30 := NB176_181.out; have hcz31_0 : w29.cell? ⟨gb181, 0, none⟩ = some (.string (⟨#[]⟩ : ByteArray)) := (blk_cell BK181.out 0).trans rfl; have hcz31_1 : w29.cell? ⟨gb181, 1, none⟩ = some (.string (⟨#[]⟩ : ByteArray)) := (blk_cell BK181.out 1).trans rfl; have hfz31_0 := blk_frozen BK181.out 0; have hfz31_1 := blk_frozen BK181.out 1))
  have n0_ : Aside0 (((w29.setCell ⟨gb181, 0, none⟩ (.string t177)).setCell ⟨gb181, 1, none⟩ (.string t180)).heap[gb176]? = some (.cells #[.string (⟨#[]⟩ : ByteArray), .string (⟨#[]⟩ : ByteArray)] 35 (0, 0))) := ⟨by (with_reducible repeat (first | refine blk_drewN ?_ _ | refine blk_drew ?_ | refine blk_alloc ?_ _)); refine blk_far ?_ NB176_181.out _; (with_reducible repeat (first | refine blk_drewN ?_ _ | refine blk_drew ?_ | refine blk_alloc ?_ _)); refine blk_far ?_ NB176_181.out _; (with_reducible repeat (first | refine blk_drewN ?_ _ | refine blk_drew ?_ | refine blk_alloc ?_ _)); exact BK176.out⟩
  have n1_ : Aside0 (((w29.setCell ⟨gb181, 0, none⟩ (.string t177)).setCell ⟨gb181, 1, none⟩ (.string t180)).heap[gb181]? = some (.cells #[.string t177, .string t180] 35 (0, 0))) := ⟨by (with_reducible repeat (first | refine blk_drewN ?_ _ | refine blk_drew ?_ | refine blk_alloc ?_ _)); refine blk_put (cs := #[.string t177, .string (⟨#[]⟩ : ByteArray)]) ?_ 1 _ rfl; (with_reducible repeat (first | refine blk_drewN ?_ _ | refine blk_drew ?_ | refine blk_alloc ?_ _)); refine blk_put (cs := #[.string (⟨#[]⟩ : ByteArray), .string (⟨#[]⟩ : ByteArray)]) ?_ 0 _ rfl; (with_reducible repeat (first | refine blk_drewN ?_ _ | refine blk_drew ?_ | refine blk_alloc ?_ _)); exact BK181.out⟩
  have n2_ : Aside0 (Below w.heap.size w ((w29.setCell ⟨gb181, 0, none⟩ (.string t177)).setCell ⟨gb181, 1, none⟩ (.string t180))) := ⟨bel_ HB.out⟩
  (try clear BK176)
  (try clear BK181)
  (try clear HB)
  generalize ((w29.setCell ⟨gb181, 0, none⟩ (.string t177)).setCell ⟨gb181, 1, none⟩ (.string t180)) = w32 at n0_ n1_ n2_ ⊢
  have BK176 := n0_
  have BK181 := n1_
  have HB := n2_
  clear n0_ n1_ n2_
  have n0_ := am_ (blk_drew BK176.out)
  have n1_ := am_ (blk_drew BK181.out)
  have n2_ := am_ (below_drew1 HB.out)
  clear BK176 BK181 HB
  have BK176 := n0_
  have BK181 := n1_
  have HB := n2_
  clear n0_ n1_ n2_
  refine start_ (n := 14) (S := fun w' => w'.cell? ⟨gb181, 0, none⟩ = some (.string t177) ∧ w'.cell? ⟨gb181, 1, none⟩ = some (.string t180)) (ds := []) #[false, false, false, false, false, false, false, false, false, false, false, false, false, false] kr_ rfl rfl ⟨(blk_cell BK181.out 0).trans rfl, (blk_cell BK181.out 1).trans rfl⟩ (fun hHeld => ?_); refine with_tabW head_field.tab3 head_field.bits3 (fun HT_ HW_ => ?_)
  generalize w32.drew = w33 at BK176 BK181 HB hHeld ⊢
  refine pure_ (i := 1) (N := some 19) (v := ?_) (a' := ?_) #[false, true, false, false, false, false, false, false, false, false, false, false, false, false] rfl rfl (any_of HT_.out kr_) (fun _ _ _ h => h) (Or.inl ⟨by rfl, ?_⟩) ?_ ?_
  rotate_left
  ·intro w'
   go_simp
   with_reducible rfl
  rotate_left
  ·simp only [Act.put, sx_, s0_, s1_, i64_w, i32_w]
   rfl
  refine pure_ (i := 2) (N := some 20) (v := ?_) (a' := ?_) #[false, true, true, false, false, false, false, false, false, false, false, false, false, false] rfl rfl (any_of HT_.out kr_) (fun _ _ _ h => h) (Or.inl ⟨by rfl, ?_⟩) ?_ ?_
  rotate_left
  ·intro w'
   go_simp
   with_reducible rfl
  rotate_left
  ·simp only [Act.put, sx_, s0_, s1_, i64_w, i32_w]
   rfl
  refine pure_ (i := 3) (N := some 21) (v := undef) (a' := ?_) #[false, true, true, true, false, false, false, false, false, false, false, false, false, false] rfl rfl (any_of HT_.out kr_) (fun _ _ _ h => h) (Or.inr ⟨by rfl, rfl⟩) ?_ ?_
  rotate_left
  ·simp only [Act.put, sx_, s0_, s1_, i64_w, i32_w]
   rfl
  refine pure_ (i := 4) (N := some 22) (v := undef) (a' := ?_) #[false, true, true, true, true, false, false, false, false, false, false, false, false, false] rfl rfl (any_of HT_.out kr_) (fun _ _ _ h => h) (Or.inr ⟨by rfl, rfl⟩) ?_ ?_
  rotate_left
  ·simp only [Act.put, sx_, s0_, s1_, i64_w, i32_w]
   rfl
  refine pure_ (i := 5) (N := some 23) (v := undef) (a' := ?_) #[false, true, true, true, true, true, false, false, false, false, false, false, false, false] rfl rfl (any_of HT_.out kr_) (fun _ _ _ h => h) (Or.inr ⟨by rfl, rfl⟩) ?_ ?_
  rotate_left
  ·simp only [Act.put, sx_, s0_, s1_, i64_w, i32_w]
   rfl
  refine pure_ (i := 6) (N := some 24) (v := ?_) (a' := ?_) #[false, true, true, true, true, true, true, false, false, false, false, false, false, false] rfl rfl (any_of HT_.out kr_) (fun _ _ _ h => h) (Or.inl ⟨by rfl, ?_⟩) ?_ ?_
  rotate_left
  ·intro w'
   go_simp
   with_reducible rfl
  rotate_left
  ·simp only [Act.put, sx_, s0_, s1_, i64_w, i32_w]
   rfl
  refine pure_ (i := 7) (N := some 25) (v := ?_) (a' := ?_) #[false, true, true, true, true, true, true, true, false, false, false, false, false, false] rfl rfl (any_of HT_.out kr_) (fun _ _ _ h => h) (Or.inl ⟨by rfl, ?_⟩) ?_ ?_
  rotate_left
  ·intro w'
   go_simp
   with_reducible rfl
  rotate_left
  ·simp only [Act.put, sx_, s0_, s1_, i64_w, i32_w]
   rfl
  refine pure_ (i := 8) (N := some 26) (v := undef) (a' := ?_) #[false, true, true, true, true, true, true, true, true, false, false, false, false, false] rfl rfl (any_of HT_.out kr_) (fun _ _ _ h => h) (Or.inr ⟨by rfl, rfl⟩) ?_ ?_
  rotate_left
  ·simp only [Act.put, sx_, s0_, s1_, i64_w, i32_w]
   rfl
  refine pure_ (i := 9) (N := some 27) (v := undef) (a' := ?_) #[false, true, true, true, true, true, true, true, true, true, false, false, false, false] rfl rfl (any_of HT_.out kr_) (fun _ _ _ h => h) (Or.inr ⟨by rfl, rfl⟩) ?_ ?_
  rotate_left
  ·simp only [Act.put, sx_, s0_, s1_, i64_w, i32_w]
   rfl
  refine pure_ (i := 10) (N := some 28) (v := undef) (a' := ?_) #[false, true, true, true, true, true, true, true, true, true, true, false, false, false] rfl rfl (any_of HT_.out kr_) (fun _ _ _ h => h) (Or.inr ⟨by rfl, rfl⟩) ?_ ?_
  rotate_left
  ·simp only [Act.put, sx_, s0_, s1_, i64_w, i32_w]
   rfl
  refine pure_ (i := 11) (N := some 29) (v := ?_) (a' := ?_) #[false, true, true, true, true, true, true, true, true, true, true, true, false, false] rfl rfl (any_of HT_.out kr_) (fun _ _ _ h => h) (Or.inl ⟨by rfl, ?_⟩) ?_ ?_
  rotate_left
  ·intro w'
   go_simp
   with_reducible rfl
  rotate_left
  ·simp only [Act.put, sx_, s0_, s1_, i64_w, i32_w]
   rfl
  refine take_ (i := 0) (N := some 18) (v := ?_) (a' := ?_) #[true, true, true, true, true, true, true, true, true, true, true, true, false, false] rfl rfl (take_ofW HT_.out HW_.out kr_) (fun _ _ _ h => h) (Or.inl ⟨by rfl, ?_⟩) hHeld ?_ ?_
  rotate_left
  ·rintro w' ⟨s0, s1⟩
   go_simp
   with_reducible rfl
  rotate_left
  ·simp only [Act.put, sx_, s0_, s1_, i64_w, i32_w]
   rfl
  refine one_ (i := 12) (N := none) #[true, true, true, true, true, true, true, true, true, true, true, true, true, false] rfl rfl (one_of HT_.out kr_) (by decide) (fun K hK => ?_)
  have hs34 : w33.cell? ⟨gb176, 0, none⟩ = some (.string (⟨#[]⟩ : ByteArray)) := (blk_cell BK176.out 0).trans rfl
  have hfs34 := blk_frozen BK176.out 0
  have hns34_1 := NB181_176.out
  have hms34_1 := NB176_181.out
  have hs35 : w33.cell? ⟨gb176, 1, none⟩ = some (.string (⟨#[]⟩ : ByteArray)) := (blk_cell BK176.out 1).trans rfl
  have hfs35 := blk_frozen BK176.out 1
  have hns35_1 := NB181_176.out
  have hms35_1 := NB176_181.out
  refine skip_ (w1 := ?_) (by rfl) rfl ?_ ?_
  rotate_left
  ·go_simp
   rfl
  refine hK.out _ _ ⟨((cell_far (p := ⟨gb176, _, none⟩) NB181_176.out _).trans (((cell_far (p := ⟨gb176, _, none⟩) NB181_176.out _).trans (hHeld.1)))), ((cell_far (p := ⟨gb176, _, none⟩) NB181_176.out _).trans (((cell_far (p := ⟨gb176, _, none⟩) NB181_176.out _).trans (hHeld.2))))⟩ (fun hHeld => ?_)
  clear hK K
  refine pure_ (i := 13) (N := some 3) (v := ?_) (a' := ?_) #[true, true, true, true, true, true, true, true, true, true, true, true, true, true] rfl rfl (any_of HT_.out kr_) (fun _ _ _ h => h) (Or.inl ⟨by rfl, ?_⟩) ?_ ?_
  rotate_left
  ·intro w'
   go_simp
   with_reducible rfl
  rotate_left
  ·simp only [Act.put, sx_, s0_, s1_, i64_w, i32_w]
   rfl
  refine done_ (done_of HT_.out kr_) ?_
  try go_wp2
  refine bodyPost_ret (results_ct rfl _ _ gb176 35 #[.string t177, .string t180] (0, 0) _ rfl (by (with_reducible repeat (first | refine blk_drewN ?_ _ | refine blk_drew ?_ | refine blk_alloc ?_ _)); refine blk_put (cs := #[.string t177, .string (⟨#[]⟩ : ByteArray)]) ?_ 1 _ rfl; (with_reducible repeat (first | refine blk_drewN ?_ _ | refine blk_drew ?_ | refine blk_alloc ?_ _)); refine blk_put (cs := #[.string (⟨#[]⟩ : ByteArray), .string (⟨#[]⟩ : ByteArray)]) ?_ 0 _ rfl; (with_reducible repeat (first | refine blk_drewN ?_ _ | refine blk_drew ?_ | refine blk_alloc ?_ _)); exact BK176.out) Tryd.underlying35 rfl kr_) rfl ?_
  exact ⟨fi_, bel_ HB.out⟩

/-! ### the shelf's Lays.n143 at this program -/
def lays143_ren : Go.Shelf.Ren := ⟨fun | 143 => 20 | 219 => 33 | 217 => 48 | 225 => 49 | 224 => 50 | 267 => 51 | 266 => 74 | 314 => 75 | n => n, fun | 9 => 9 | 3 => 3 | 4 => 4 | 5 => 5 | 46 => 75 | 146 => 95 | 51 => 94 | n => n, fun | 1 => 0 | n => n⟩
theorem lays143 : Lays.n143 Tryd.prog lays143_ren where
 mixed := by kernel_rfl
 f143 := Tryd.func20.trans (congrArg some kr_)
 f217 := Tryd.func48.trans (congrArg some kr_)
 f219 := Tryd.func33.trans (congrArg some kr_)
 f224 := Tryd.func50.trans (congrArg some kr_)
 f225 := Tryd.func49.trans (congrArg some kr_)
 f266 := Tryd.func74.trans (congrArg some kr_)
 f267 := Tryd.func51.trans (congrArg some kr_)
 f314 := Tryd.func75.trans (congrArg some kr_)
 t3 := Tryd.underlying3
 a3 := Tryd.isAgg3
 z3 := Tryd.sizeOf3
 v3 := Tryd.zeroValue3
 t4 := Tryd.underlying4
 a4 := Tryd.isAgg4
 z4 := Tryd.sizeOf4
 v4 := Tryd.zeroValue4
 t5 := Tryd.underlying5
 a5 := Tryd.isAgg5
 z5 := Tryd.sizeOf5
 v5 := Tryd.zeroValue5
 t9 := Tryd.underlying9
 a9 := Tryd.isAgg9
 z9 := Tryd.sizeOf9
 v9 := Tryd.zeroValue9
 t46 := Tryd.underlying75
 a46 := Tryd.isAgg75
 z46 := Tryd.sizeOf75
 v46 := Tryd.zeroValue75
 t51 := Tryd.underlying94
 a51 := Tryd.isAgg94
 z51 := Tryd.sizeOf94
 v51 := Tryd.zeroValue94
 t146 := Tryd.underlying95
 a146 := Tryd.isAgg95
 z146 := Tryd.sizeOf95
 v146 := Tryd.zeroValue95
 g1 := by kernel_rfl

/-! ### strings_IndexM: function 20 where what is sought has several octets -/
/-- The library's own bound lies in memory as some number. -/
def MaxL (w : World) : Prop := ∃ m, w.cell? ⟨0, 0, none⟩ = some (.int .i64 m)
theorem gm_ {w W : World} (h : MaxL w) (hb : Below w.heap.size w W) : MaxL W := by
 obtain ⟨m, hm⟩ := h
 exact ⟨m, (hb.cell (World.block_lt_of_cell? w _ hm)).trans hm⟩
def strings_IndexM.f (a0 a1 : ByteArray) : Option (Int) := if a0.size < 4294967281 then some (Go.Lib.index a0.data.toList a1.data.toList) else none
theorem strings_IndexM.calls (a0 : ByteArray) (a1 : ByteArray) (r : Int) (w : World) (hG : MaxL w) (h : strings_IndexM.f a0 a1 = some r) :
  Calls Tryd.prog 20 #[.string a0, .string a1] w fun e w' => e = .returned (.int .i64 r) ∧ Drawn0 w w' := by
 obtain ⟨m, hm⟩ := hG
 unfold strings_IndexM.f at h
 split at h
 ·next h1 =>
  obtain rfl := Option.some.inj h
  refine (Any.strings_Index lays143 a0 a1 m w h1 hm).mono ?_
  rintro e w' ⟨rfl, rfl⟩
  exact ⟨rfl, Drawn0.refl _⟩
 ·cases h

/-! ### pieces between several octets -/
theorem indexM_fit (sep s : ByteArray) (h : 0 ≤ Go.Lib.index s.data.toList sep.data.toList) : (Go.Lib.index s.data.toList sep.data.toList).toNat + sep.size ≤ s.size := by
 rcases Go.Lib.indexB_cases s sep with c | ⟨i, c, hi⟩
 ·exact absurd h (by rw [show Go.Lib.index s.data.toList sep.data.toList = -1 from c]; decide)
 ·rw [show Go.Lib.index s.data.toList sep.data.toList = (i : Int) from c, Int.toNat_natCast]; exact hi
/-- A text's pieces between several octets. -/
def piecesM (sep s : ByteArray) : List ByteArray := cuts (fun t => Go.Lib.index t.data.toList sep.data.toList) sep.size s.size s
theorem cuts_length (ix : ByteArray → Int) (m : Nat) : ∀ (k : Nat) (s : ByteArray), (cuts ix m k s).length ≤ k + 1
 | 0, s => Nat.le_refl _
 | k + 1, s => by
  unfold cuts
  split
  ·exact Nat.le_add_left _ _
  ·rw [List.length_cons]; exact Nat.succ_le_succ (cuts_length ix m k _)
theorem seqM_stops (sep s : ByteArray) (hsep : 1 ≤ sep.size) (hs : s.size ≤ 4294967280) (b : Nat) (w : World) (hw : b + 3 ≤ w.heap.size) (hB : Boxes3 b s sep w) :
  SeqAt Fence.wide 3 Tryd.prog 76 #[.pointer (some ⟨b + 1, 0, none⟩), .pointer (some ⟨b, 0, none⟩), .pointer (some ⟨b + 2, 0, none⟩)] (fun x : ByteArray => #[Value.string x]) (Keeps3 b) b (fun xs => xs = piecesM sep s) (fun pre => pre <+: piecesM sep s) (fun xs => xs <+: piecesM sep s) MaxL w := by
 intro l J Jx W hW hJ hJx hJc hJG hY h0
 have hk : Keeps3 b w W := fun k h1 h2 => hW.block k (by omega)
 exact split1_in (fun t => Go.Lib.index t.data.toList sep.data.toList) sep hsep MaxL 4294967280 (fun t W ht hG => strings_IndexM.calls t sep _ W hG (if_pos (by omega))) (fun t h => indexM_fit sep t h) s hs (by decide) l b J Jx W hJ hJx hJc hJG hY (hB.kept hk) h0

/-! ### head_read: function 21 -/
/-- What has been read of a head: its first line's request, and the fields behind it. -/
def head_read.go (k : Nat) : List ByteArray → Option (ByteArray × ByteArray × ByteArray × List S35 × List S35) → Option (Option (Option (ByteArray × ByteArray × ByteArray × List S35 × List S35)))
 | [], s => some (some s)
 | p :: ps, none => (head_first.f k p).bind fun q => if q.2.2.2.2.2 = true then head_read.go k ps (some (q.1, q.2.1, q.2.2.1, q.2.2.2.1, q.2.2.2.2.1)) else some none
 | p :: ps, some s => (head_field.f k p).bind fun c => if c.2.2 = true then (if s.2.2.2.2.length < 4398046511104 then head_read.go k ps (some (s.1, s.2.1, s.2.2.1, s.2.2.2.1, s.2.2.2.2 ++ [⟨c.1, c.2.1⟩])) else none) else some none
def head_read.end_ (k : Nat) : Option (Option (ByteArray × ByteArray × ByteArray × List S35 × List S35)) → Option (ByteArray × ByteArray × ByteArray × List S35 × List S35 × Bool)
 | none => some (⟨#[]⟩, ⟨#[]⟩, ⟨#[]⟩, [], [], false)
 | some none => none
 | some (some s) => (head_asked.f k s.2.2.2.2).bind fun a => if a.2 = true then (if s.2.2.2.2.length ≤ 30 then some (s.1, a.1, s.2.2.1, s.2.2.2.1, s.2.2.2.2, true) else some (⟨#[]⟩, ⟨#[]⟩, ⟨#[]⟩, [], [], false)) else some (⟨#[]⟩, ⟨#[]⟩, ⟨#[]⟩, [], [], false)
def head_read.f (k : Nat) (a0 : ByteArray) : Option (ByteArray × ByteArray × ByteArray × (List S35) × (List S35) × Bool) := if a0.size ≤ 4294967280 then (head_read.go k (piecesM ⟨#[13, 10]⟩ a0) none).bind fun o => head_read.end_ k o else none
theorem head_read.go_mono (k : Nat) : ∀ (ps : List ByteArray) (s : Option (ByteArray × ByteArray × ByteArray × List S35 × List S35)), LeO (head_read.go k ps s) (head_read.go (k + 1) ps s)
 | [], _ => LeO.refl _
 | p :: ps, none => by
  have ih := head_read.go_mono k ps
  simp only [head_read.go]
  exact LeO.bind (head_first.mono _ _) (fun _ => LeO.ite (ih _) (LeO.refl _))
 | p :: ps, some s => by
  have ih := head_read.go_mono k ps
  simp only [head_read.go]
  exact LeO.bind (head_field.mono _ _) (fun _ => LeO.ite (LeO.ite (ih _) (LeO.refl _)) (LeO.refl _))
theorem head_read.mono : ∀ a0 k, LeO (head_read.f k a0) (head_read.f (k + 1) a0) := by
 intro a0 k
 unfold head_read.f
 refine LeO.ite (LeO.bind (head_read.go_mono k _ _) (fun o => ?_)) (LeO.refl _)
 rcases o with _ | _ | s
 ·exact LeO.refl _
 ·exact LeO.refl _
 ·exact LeO.bind (head_asked.mono _ _) (fun _ => LeO.refl _)
/-- What holds between two lines. -/
structure head_read.Inv (k b : Nat) (pre : List ByteArray) (W : World) : Prop where
 ex : (pre = [] ∧ W.heap[b]? = some (.cells #[.string ⟨#[]⟩, .string ⟨#[]⟩, .string ⟨#[]⟩, .slice none 0 0, .slice none 0 0] 26 (0, 0)) ∧ W.heap[b + 1]? = some (.cells #[.bool false] 4 (0, 0))) ∨
  (pre ≠ [] ∧ ∃ (m ho pa : ByteArray) (q hs : List S35) (A1 A2 : Option Addr) (c1 c2 : Nat), (∀ rest, head_read.go k (pre ++ rest) none = head_read.go k rest (some (m, ho, pa, q, hs))) ∧
   W.heap[b]? = some (.cells #[.string m, .string ho, .string pa, .slice A1 q.length c1, .slice A2 hs.length c2] 26 (0, 0)) ∧ W.heap[b + 1]? = some (.cells #[.bool true] 4 (0, 0)) ∧
   Kd.R k35 35 W b (fun x => b + 6 ≤ x ∧ some x ≠ (Value.slice A2 hs.length c2).ownBlock) (.slice A1 q.length c1) q ∧ Kd.R k35 35 W b (fun x => b + 6 ≤ x ∧ some x ≠ (Value.slice A1 q.length c1).ownBlock) (.slice A2 hs.length c2) hs)
 nb : W.heap[b + 2]? = some (.cells #[.int .i64 (pre.length : Int)] 3 (0, 0))
 sz : b + 6 ≤ W.heap.size
theorem head_read.Inv.moved {k b : Nat} {pre : List ByteArray} {A B : World} (h : head_read.Inv k b pre A) (hs : A.heap.size ≤ B.heap.size) (hm : ∀ q cells t, A.heap[q]? = some (.cells cells t (0, 0)) → q ≠ b + 3 → B.heap[q]? = A.heap[q]?) : head_read.Inv k b pre B := by
 have hr : ∀ {v : Value} {xs : List S35} {P : Nat → Prop}, Kd.R k35 35 A b (fun x => b + 6 ≤ x ∧ P x) v xs → Kd.R k35 35 B b (fun x => b + 6 ≤ x ∧ P x) v xs := fun h1 =>
  Kd.R_mono (Kd.R_move (Kd.R_bound h1) (fun q hq => by
   obtain ⟨⟨h2, _⟩, _, _, t, _, cells, hc⟩ := hq
   exact hm q cells t hc (by omega))) (fun _ hq => hq.1)
 refine ⟨?_, (hm _ _ _ h.nb (by omega)).trans h.nb, Nat.le_trans h.sz hs⟩
 rcases h.ex with ⟨h1, h2, h3⟩ | ⟨h1, m, ho, pa, q, hs, A1, A2, c1, c2, h2, h3, h4, h5, h6⟩
 ·exact .inl ⟨h1, (hm _ _ _ h2 (by omega)).trans h2, (hm _ _ _ h3 (by omega)).trans h3⟩
 ·exact .inr ⟨h1, m, ho, pa, q, hs, A1, A2, c1, c2, h2, (hm _ _ _ h3 (by omega)).trans h3, (hm _ _ _ h4 (by omega)).trans h4, hr h5, hr h6⟩
theorem head_read.Inv.grown {k b : Nat} {pre : List ByteArray} {A B : World} (h : head_read.Inv k b pre A) {row : Option Nat} (hg : A.grownBy B row) (hr : ∀ r, row = some r → ∃ o : Obj, A.heap[r]? = some o ∧ o.isCells = false) : head_read.Inv k b pre B :=
 h.moved hg.size (fun q cells t hc _ => hg.block q (Array.getElem?_eq_some_iff.1 hc).1 (fun e => by
  obtain ⟨o, ho, hn⟩ := hr q e.symm
  rw [hc] at ho
  cases ho
  cases hn))
theorem head_read.Inv.box {k b : Nat} {pre : List ByteArray} {A : World} (h : head_read.Inv k b pre A) (u : Value) : head_read.Inv k b pre (A.setCell ⟨b + 3, 0, none⟩ u) :=
 h.moved (by simp) (fun q cells t hc hq => Below.heap_setCell A ⟨b + 3, 0, none⟩ u q hq)
theorem head_read.Inv.below {k b : Nat} {pre : List ByteArray} {A B : World} (h : head_read.Inv k b pre A) (hb : Below A.heap.size A B) : head_read.Inv k b pre B :=
 h.moved hb.size (fun q cells t hc _ => hb.block q (Array.getElem?_eq_some_iff.1 hc).1)
/-- Five cells written. -/
theorem s5_at {W : World} {b : Nat} {t : TypeId} {a0 a1 a2 a3 a4 : Value} (h : W.heap[b]? = some (.cells #[a0, a1, a2, a3, a4] t (0, 0))) (x0 x1 x2 x3 x4 : Value) : (((((W.setCell ⟨b, 0, none⟩ x0).setCell ⟨b, 1, none⟩ x1).setCell ⟨b, 2, none⟩ x2).setCell ⟨b, 3, none⟩ x3).setCell ⟨b, 4, none⟩ x4).heap[b]? = some (.cells #[x0, x1, x2, x3, x4] t (0, 0)) :=
 blk_put (blk_put (blk_put (blk_put (blk_put h 0 x0 rfl) 1 x1 rfl) 2 x2 rfl) 3 x3 rfl) 4 x4 rfl
theorem s5_far (W : World) (b : Nat) (x0 x1 x2 x3 x4 : Value) (q : Nat) (hq : q ≠ b) : (((((W.setCell ⟨b, 0, none⟩ x0).setCell ⟨b, 1, none⟩ x1).setCell ⟨b, 2, none⟩ x2).setCell ⟨b, 3, none⟩ x3).setCell ⟨b, 4, none⟩ x4).heap[q]? = W.heap[q]? := by
 rw [Below.heap_setCell _ ⟨b, 4, none⟩ x4 q hq, Below.heap_setCell _ ⟨b, 3, none⟩ x3 q hq, Below.heap_setCell _ ⟨b, 2, none⟩ x2 q hq, Below.heap_setCell _ ⟨b, 1, none⟩ x1 q hq, Below.heap_setCell _ ⟨b, 0, none⟩ x0 q hq]
theorem s5_keeps (W : World) (b : Nat) (x0 x1 x2 x3 x4 : Value) (B : Nat) : KeepsFrom B W (((((W.setCell ⟨b, 0, none⟩ x0).setCell ⟨b, 1, none⟩ x1).setCell ⟨b, 2, none⟩ x2).setCell ⟨b, 3, none⟩ x3).setCell ⟨b, 4, none⟩ x4) :=
 KeepsFrom.trans (KeepsFrom.trans (KeepsFrom.trans (KeepsFrom.trans ((KeepsOthers.setCell _ _ _).from B) ((KeepsOthers.setCell _ _ _).from B)) ((KeepsOthers.setCell _ _ _).from B)) ((KeepsOthers.setCell _ _ _).from B)) ((KeepsOthers.setCell _ _ _).from B)
theorem s5_below {w W : World} {n b : Nat} (h : Below n w W) (hb : n ≤ b) (x0 x1 x2 x3 x4 : Value) : Below n w (((((W.setCell ⟨b, 0, none⟩ x0).setCell ⟨b, 1, none⟩ x1).setCell ⟨b, 2, none⟩ x2).setCell ⟨b, 3, none⟩ x3).setCell ⟨b, 4, none⟩ x4) :=
 ((((h.setCell (p := ⟨b, 0, none⟩) hb x0).setCell (p := ⟨b, 1, none⟩) hb x1).setCell (p := ⟨b, 2, none⟩) hb x2).setCell (p := ⟨b, 3, none⟩) hb x3).setCell (p := ⟨b, 4, none⟩) hb x4
theorem bad_after {W : World} {b : Nat} {t tb : TypeId} {a0 a1 a2 a3 a4 ab : Value} (hr : W.heap[b]? = some (.cells #[a0, a1, a2, a3, a4] t (0, 0))) (hk : W.heap[b + 1]? = some (.cells #[ab] tb (0, 0))) (x0 x1 x2 x3 x4 : Value) :
  (((((((((((((W.setCell ⟨b, 0, none⟩ x0).setCell ⟨b, 1, none⟩ x1).setCell ⟨b, 2, none⟩ x2).setCell ⟨b, 3, none⟩ x3).setCell ⟨b, 4, none⟩ x4).setCell ⟨b + 1, 0, none⟩ (.bool false)).setCell ⟨b, 0, none⟩ (.string ⟨#[]⟩)).setCell ⟨b, 1, none⟩ (.string ⟨#[]⟩)).setCell ⟨b, 2, none⟩ (.string ⟨#[]⟩)).setCell ⟨b, 3, none⟩ (.slice none 0 0)).setCell ⟨b, 4, none⟩ (.slice none 0 0)).setCell ⟨b + 1, 0, none⟩ (.bool false))).heap[b]? = some (.cells #[.string ⟨#[]⟩, .string ⟨#[]⟩, .string ⟨#[]⟩, .slice none 0 0, .slice none 0 0] t (0, 0)) ∧ (((((((((((((W.setCell ⟨b, 0, none⟩ x0).setCell ⟨b, 1, none⟩ x1).setCell ⟨b, 2, none⟩ x2).setCell ⟨b, 3, none⟩ x3).setCell ⟨b, 4, none⟩ x4).setCell ⟨b + 1, 0, none⟩ (.bool false)).setCell ⟨b, 0, none⟩ (.string ⟨#[]⟩)).setCell ⟨b, 1, none⟩ (.string ⟨#[]⟩)).setCell ⟨b, 2, none⟩ (.string ⟨#[]⟩)).setCell ⟨b, 3, none⟩ (.slice none 0 0)).setCell ⟨b, 4, none⟩ (.slice none 0 0)).setCell ⟨b + 1, 0, none⟩ (.bool false))).heap[b + 1]? = some (.cells #[.bool false] tb (0, 0)) ∧ (∀ B, KeepsFrom B W (((((((((((((W.setCell ⟨b, 0, none⟩ x0).setCell ⟨b, 1, none⟩ x1).setCell ⟨b, 2, none⟩ x2).setCell ⟨b, 3, none⟩ x3).setCell ⟨b, 4, none⟩ x4).setCell ⟨b + 1, 0, none⟩ (.bool false)).setCell ⟨b, 0, none⟩ (.string ⟨#[]⟩)).setCell ⟨b, 1, none⟩ (.string ⟨#[]⟩)).setCell ⟨b, 2, none⟩ (.string ⟨#[]⟩)).setCell ⟨b, 3, none⟩ (.slice none 0 0)).setCell ⟨b, 4, none⟩ (.slice none 0 0)).setCell ⟨b + 1, 0, none⟩ (.bool false)))) ∧ (∀ (n : Nat) (w : World), n ≤ b → Below n w W → Below n w (((((((((((((W.setCell ⟨b, 0, none⟩ x0).setCell ⟨b, 1, none⟩ x1).setCell ⟨b, 2, none⟩ x2).setCell ⟨b, 3, none⟩ x3).setCell ⟨b, 4, none⟩ x4).setCell ⟨b + 1, 0, none⟩ (.bool false)).setCell ⟨b, 0, none⟩ (.string ⟨#[]⟩)).setCell ⟨b, 1, none⟩ (.string ⟨#[]⟩)).setCell ⟨b, 2, none⟩ (.string ⟨#[]⟩)).setCell ⟨b, 3, none⟩ (.slice none 0 0)).setCell ⟨b, 4, none⟩ (.slice none 0 0)).setCell ⟨b + 1, 0, none⟩ (.bool false)))) := by
 obtain ⟨Y1, h1⟩ : ∃ Y, Y = (((((W.setCell ⟨b, 0, none⟩ x0).setCell ⟨b, 1, none⟩ x1).setCell ⟨b, 2, none⟩ x2).setCell ⟨b, 3, none⟩ x3).setCell ⟨b, 4, none⟩ x4) := ⟨_, rfl⟩
 have r1 := s5_at hr x0 x1 x2 x3 x4
 have k1 := (s5_far W b x0 x1 x2 x3 x4 (b + 1) (by omega)).trans hk
 have p1 := s5_keeps W b x0 x1 x2 x3 x4
 have q1 : ∀ (n : Nat) (w : World), n ≤ b → Below n w W → Below n w (((((W.setCell ⟨b, 0, none⟩ x0).setCell ⟨b, 1, none⟩ x1).setCell ⟨b, 2, none⟩ x2).setCell ⟨b, 3, none⟩ x3).setCell ⟨b, 4, none⟩ x4) := fun n w hn h => s5_below h hn x0 x1 x2 x3 x4
 rw [← h1] at r1 k1 p1 q1 ⊢
 obtain ⟨Y2, h2⟩ : ∃ Y, Y = Y1.setCell ⟨b + 1, 0, none⟩ (.bool false) := ⟨_, rfl⟩
 have r2 := (Below.heap_setCell Y1 ⟨b + 1, 0, none⟩ (.bool false) b (by show b ≠ b + 1; omega)).trans r1
 have k2 := blk_put k1 0 (.bool false) rfl
 rw [← h2] at r2 k2 ⊢
 have r3 := s5_at r2 (.string ⟨#[]⟩) (.string ⟨#[]⟩) (.string ⟨#[]⟩) (.slice none 0 0) (.slice none 0 0)
 have k3 := (s5_far Y2 b (.string ⟨#[]⟩) (.string ⟨#[]⟩) (.string ⟨#[]⟩) (.slice none 0 0) (.slice none 0 0) (b + 1) (by omega)).trans k2
 have p3 := s5_keeps Y2 b (.string ⟨#[]⟩) (.string ⟨#[]⟩) (.string ⟨#[]⟩) (.slice none 0 0) (.slice none 0 0)
 refine ⟨(Below.heap_setCell _ ⟨b + 1, 0, none⟩ (.bool false) b (by show b ≠ b + 1; omega)).trans r3, blk_put k3 0 (.bool false) rfl, fun B => ?_, fun n w hn h => ?_⟩
 ·refine KeepsFrom.trans (p1 B) (KeepsFrom.trans (Y := Y2) ?_ (KeepsFrom.trans (p3 B) ((KeepsOthers.setCell _ _ _).from B)))
  rw [h2]
  exact (KeepsOthers.setCell _ _ _).from B
 ·refine (s5_below (W := Y2) ?_ hn _ _ _ _ _).setCell (p := ⟨b + 1, 0, none⟩) (by show n ≤ b + 1; omega) _
  rw [h2]
  exact (q1 n w hn h).setCell (p := ⟨b + 1, 0, none⟩) (by show n ≤ b + 1; omega) _
theorem put_after {W : World} {b : Nat} {t tb : TypeId} {a0 a1 a2 a3 a4 ab : Value} (hr : W.heap[b]? = some (.cells #[a0, a1, a2, a3, a4] t (0, 0))) (hk : W.heap[b + 1]? = some (.cells #[ab] tb (0, 0))) (x0 x1 x2 x3 x4 : Value) (ok : Bool) :
  (((((((W.setCell ⟨b, 0, none⟩ x0).setCell ⟨b, 1, none⟩ x1).setCell ⟨b, 2, none⟩ x2).setCell ⟨b, 3, none⟩ x3).setCell ⟨b, 4, none⟩ x4).setCell ⟨b + 1, 0, none⟩ (.bool ok))).heap[b]? = some (.cells #[x0, x1, x2, x3, x4] t (0, 0)) ∧ (((((((W.setCell ⟨b, 0, none⟩ x0).setCell ⟨b, 1, none⟩ x1).setCell ⟨b, 2, none⟩ x2).setCell ⟨b, 3, none⟩ x3).setCell ⟨b, 4, none⟩ x4).setCell ⟨b + 1, 0, none⟩ (.bool ok))).heap[b + 1]? = some (.cells #[.bool ok] tb (0, 0)) ∧ (∀ B, KeepsFrom B W (((((((W.setCell ⟨b, 0, none⟩ x0).setCell ⟨b, 1, none⟩ x1).setCell ⟨b, 2, none⟩ x2).setCell ⟨b, 3, none⟩ x3).setCell ⟨b, 4, none⟩ x4).setCell ⟨b + 1, 0, none⟩ (.bool ok)))) ∧ (∀ (n : Nat) (w : World), n ≤ b → Below n w W → Below n w (((((((W.setCell ⟨b, 0, none⟩ x0).setCell ⟨b, 1, none⟩ x1).setCell ⟨b, 2, none⟩ x2).setCell ⟨b, 3, none⟩ x3).setCell ⟨b, 4, none⟩ x4).setCell ⟨b + 1, 0, none⟩ (.bool ok)))) ∧ (∀ j, j ≠ b → j ≠ b + 1 → (((((((W.setCell ⟨b, 0, none⟩ x0).setCell ⟨b, 1, none⟩ x1).setCell ⟨b, 2, none⟩ x2).setCell ⟨b, 3, none⟩ x3).setCell ⟨b, 4, none⟩ x4).setCell ⟨b + 1, 0, none⟩ (.bool ok))).heap[j]? = W.heap[j]?) :=
 ⟨(Below.heap_setCell _ ⟨b + 1, 0, none⟩ (.bool ok) b (by show b ≠ b + 1; omega)).trans (s5_at hr x0 x1 x2 x3 x4), blk_put ((s5_far W b x0 x1 x2 x3 x4 (b + 1) (by omega)).trans hk) 0 (.bool ok) rfl, fun B => (s5_keeps W b x0 x1 x2 x3 x4 B).trans ((KeepsOthers.setCell _ _ _).from B),
  fun n w hn h => (s5_below h hn x0 x1 x2 x3 x4).setCell (p := ⟨b + 1, 0, none⟩) (by show n ≤ b + 1; omega) _, fun j h1 h2 => (Below.heap_setCell _ ⟨b + 1, 0, none⟩ (.bool ok) j h2).trans (s5_far W b x0 x1 x2 x3 x4 j h1)⟩
theorem grownBy_keepsCells {A B : World} {row : Option Nat} (hg : A.grownBy B row) (hr : ∀ r, row = some r → ∃ o : Obj, A.heap[r]? = some o ∧ o.isCells = false) {q : Nat} {cells : Array Value} {t : TypeId} (hc : A.heap[q]? = some (.cells cells t (0, 0))) : B.heap[q]? = A.heap[q]? :=
 hg.block q (Array.getElem?_eq_some_iff.1 hc).1 (fun e => by
  obtain ⟨o, ho, hn⟩ := hr q e.symm
  rw [hc] at ho
  cases ho
  cases hn)
theorem head_read.Inv.next {k b : Nat} {pre : List ByteArray} {x : ByteArray} {A B : World} {m ho pa : ByteArray} {q hs : List S35} {p : S35} {A1 A2 A5 : Option Addr} {c1 c2 c5 : Nat} (hadv : ∀ rest, head_read.go k ((pre ++ [x]) ++ rest) none = head_read.go k rest (some (m, ho, pa, q, hs ++ [p])))
  (h0 : A.heap[b]? = some (.cells #[.string m, .string ho, .string pa, .slice A1 q.length c1, .slice A2 hs.length c2] 26 (0, 0))) (h1 : A.heap[b + 1]? = some (.cells #[.bool true] 4 (0, 0))) (h2 : A.heap[b + 2]? = some (.cells #[.int .i64 ((pre.length : Int) + 1)] 3 (0, 0))) (hsz : b + 6 ≤ A.heap.size)
  (hq : Kd.R k35 35 A b (fun x => b + 6 ≤ x ∧ some x ≠ (Value.slice A2 hs.length c2).ownBlock) (.slice A1 q.length c1) q) (hh : Kd.R k35 35 A b (fun x => b + 6 ≤ x ∧ some x ≠ (Value.slice A1 q.length c1).ownBlock) (.slice A2 hs.length c2) hs)
  (hR : Kd.R k35 35 B b (fun x => b + 6 ≤ x ∧ some x ≠ (Value.slice A1 q.length c1).ownBlock) (.slice A5 (hs ++ [p]).length c5) (hs ++ [p])) (hg : A.grownBy B (Value.slice A2 hs.length c2).ownBlock)
  (hat : (Value.slice A5 (hs ++ [p]).length c5).ownBlock = (Value.slice A2 hs.length c2).ownBlock ∨ ∃ g, (Value.slice A5 (hs ++ [p]).length c5).ownBlock = some g ∧ A.heap.size ≤ g) :
  head_read.Inv k b (pre ++ [x]) (B.setCell ⟨b, 4, none⟩ (.slice A5 (hs ++ [p]).length c5)) ∧ Keeps3 (b + 3) A (B.setCell ⟨b, 4, none⟩ (.slice A5 (hs ++ [p]).length c5)) ∧ KeepsFrom (b + 6) A (B.setCell ⟨b, 4, none⟩ (.slice A5 (hs ++ [p]).length c5)) := by
 have lo : ∀ j, j < b + 6 → B.heap[j]? = A.heap[j]? := fun j hj => hg.block j (by omega) (fun e => by have := (R_own_cells hh e).1.1; omega)
 have far : ∀ j, j ≠ b → (B.setCell ⟨b, 4, none⟩ (.slice A5 (hs ++ [p]).length c5)).heap[j]? = B.heap[j]? := fun j hj => Below.heap_setCell B ⟨b, 4, none⟩ _ j hj
 have hq2 : Kd.R k35 35 B b (fun x => b + 6 ≤ x ∧ some x ≠ (Value.slice A5 (hs ++ [p]).length c5).ownBlock) (.slice A1 q.length c1) q := by
  refine Kd.R_mono (Kd.R_grown (Kd.R_bound hq) hg (fun j hj => hj.1.2)) (fun j hj => ⟨hj.1.1, fun e => ?_⟩)
  rcases hat with h3 | ⟨g, h3, h4⟩
  ·exact hj.1.2 (e.trans h3)
  ·rw [h3] at e
   cases e
   have := hj.2.2.1
   omega
 refine ⟨⟨.inr ⟨by simp, m, ho, pa, q, hs ++ [p], A1, A5, c1, c5, hadv, blk_put ((lo b (by omega)).trans h0) 4 _ rfl, (far _ (by omega)).trans ((lo _ (by omega)).trans h1), ?_, ?_⟩, ?_, ?_⟩, ?_, ?_⟩
 ·exact Kd.R_far hq2 (fun j hj => by show j ≠ b; omega) _
 ·exact Kd.R_far hR (fun j hj => by show j ≠ b; omega) _
 ·rw [far _ (by omega), lo _ (by omega), h2, List.length_append, List.length_singleton]
  rfl
 ·have := hg.size; simp; omega
 ·intro j h3 h4
  rw [far _ (by omega)]
  exact lo j (by omega)
 ·refine KeepsFrom.trans (Y := B) ⟨hg.size, fun j o _ hj hn => ?_⟩ ((KeepsOthers.setCell B ⟨b, 4, none⟩ _).from _)
  rw [hg.block j (Array.getElem?_eq_some_iff.1 hj).1 (fun e => by
   obtain ⟨_, cells, u, hc⟩ := R_own_cells hh e
   rw [hj] at hc
   cases hc
   cases hn)]
  exact hj
section
attribute [local go_sem] Oper.semAt_some
set_option maxHeartbeats 8000000 in
set_option maxRecDepth 100000 in
theorem head_read.calls (k : Nat) (a0 : ByteArray) (r1 : ByteArray) (r2 : ByteArray) (r3 : ByteArray) (r4 : List S35) (r5 : List S35) (r6 : Bool) (w : World) (hG : MaxL w) (h : head_read.f k a0 = some (r1, r2, r3, r4, r5, r6)) :
  Calls Tryd.prog 21 #[.string a0] w fun e w' => ∃ v3_ v4_ : Value, e = .returned (.tuple #[.agg #[.string r1, .string r2, .string r3, v3_, v4_], .bool r6]) ∧ Kd.R k35 35 w' w.heap.size (fun k_ => some k_ ≠ (v4_ : Value).ownBlock) v3_ r4 ∧ Kd.R k35 35 w' w.heap.size (fun k_ => some k_ ≠ (v3_ : Value).ownBlock) v4_ r5 ∧ Below w.heap.size w w' := by
 refine (callsIn_wide (n := 4)).1 ?_
 refine callsIn_of_wp_marks Tryd.func21 rfl trivial ?_ rfl
 simp only [Tryd.ntmps21, List.size_toArray, List.length_cons, List.length_nil, Nat.reduceAdd, Nat.reduceSub, Array.replicate_succ, Array.replicate_zero, List.push_toArray, List.append_toArray, List.nil_append, List.cons_append]
 unfold head_read.f at h
 by_cases hl : a0.size ≤ 4294967280
 ·rw [if_pos hl] at h
  obtain ⟨o, hgo, hend⟩ := Option.bind_eq_some_iff.1 h
  clear h
  gi_wp2_with (refine ⟨trivial, ?_⟩; gi_at_call 34; refine (callsIn_wide.2 (seq_at _ _ _)).mono ?_; rintro e w' ⟨n, rfl, rfl⟩)
  obtain ⟨V, hV⟩ : ∃ V, V = ((w.alloc (.cells #[.string ⟨#[]⟩, .string ⟨#[]⟩, .string ⟨#[]⟩, .slice none 0 0, .slice none 0 0] 26)).alloc (.cells #[.bool false] 4)).alloc (.cells #[.int .i64 0] 3) := ⟨_, rfl⟩
  have z0 := World.alloc_heap_new w (.cells #[.string ⟨#[]⟩, .string ⟨#[]⟩, .string ⟨#[]⟩, .slice none 0 0, .slice none 0 0] 26)
  have z1 := World.alloc_heap_new (w.alloc (.cells #[.string ⟨#[]⟩, .string ⟨#[]⟩, .string ⟨#[]⟩, .slice none 0 0, .slice none 0 0] 26)) (.cells #[.bool false] 4)
  have z2 := World.alloc_heap_new ((w.alloc (.cells #[.string ⟨#[]⟩, .string ⟨#[]⟩, .string ⟨#[]⟩, .slice none 0 0, .slice none 0 0] 26)).alloc (.cells #[.bool false] 4)) (.cells #[.int .i64 0] 3)
  simp only [World.size_alloc] at z1 z2
  have y0 := (Below.heap_alloc _ (.cells #[.int .i64 0] 3) w.heap.size (by simp <;> omega)).trans ((Below.heap_alloc _ (.cells #[.bool false] 4) w.heap.size (by simp)).trans z0)
  have y1 := (Below.heap_alloc _ (.cells #[.int .i64 0] 3) (w.heap.size + 1) (by simp)).trans z1
  rw [← hV] at y0 y1 z2
  have hsV : V.heap.size = w.heap.size + 3 := by rw [hV]; simp
  have hBV : Below w.heap.size w V := by rw [hV]; exact ((((Below.refl _ w).alloc (Nat.le_refl _) _).alloc (by simp) _).alloc (by simp <;> omega) _)
  (try simp only [World.size_alloc])
  (try rw [← hV])
  obtain ⟨W0, hW0⟩ : ∃ W0, W0 = (((V.alloc (.cells #[.string a0] 9)).alloc (.cells #[.string ⟨#[13, 10]⟩] 9)).alloc (.cells #[.int .i64 0] 3)).drewN n := ⟨_, rfl⟩
  have hs0 : W0.heap.size = w.heap.size + 6 := by rw [hW0]; simp; omega
  have q0 := new_l V (.string a0) 9
  have q1 := new_l (V.alloc (.cells #[.string a0] 9)) (.string ⟨#[13, 10]⟩) 9
  have q2 := new_l ((V.alloc (.cells #[.string a0] 9)).alloc (.cells #[.string ⟨#[13, 10]⟩] 9)) (.int .i64 0) 3
  simp only [World.size_alloc, hsV] at q0 q1 q2
  have hVW : Below V.heap.size V W0 := by rw [hW0]; exact (((((Below.refl _ V).alloc (Nat.le_refl _) _).alloc (by simp) _).alloc (by simp; omega) _)).trans ⟨rfl, rfl, rfl, Nat.le_refl _, fun _ _ => rfl⟩
  have b0 : Boxes3 (w.heap.size + 3) a0 ⟨#[13, 10]⟩ W0 := by
   rw [hW0]
   have y2 := kept_l (.cells #[.string ⟨#[13, 10]⟩] 9) q0.1
   exact ⟨kept_l _ y2, kept_f _ y2 (kept_f _ q0.1 q0.2), kept_l _ q1.1, q2.1⟩
  have hB0 : Below w.heap.size w W0 := hBV.trans (hVW.mono hBV.size)
  have hI0 : head_read.Inv k w.heap.size [] W0 :=
   ⟨.inl ⟨rfl, (hVW.block _ (by omega)).trans y0, (hVW.block _ (by omega)).trans y1⟩, (hVW.block _ (by omega)).trans z2, by omega⟩
  rw [← hW0]
  simp only [Nat.add_assoc, Nat.reduceAdd]
  refine wpIn_range_cell rfl (by omega) (gf := 76) (lb := #[.pointer (some ⟨w.heap.size + 4, 0, none⟩), .pointer (some ⟨w.heap.size + 3, 0, none⟩), .pointer (some ⟨w.heap.size + 5, 0, none⟩)]) rfl trivial (enters_of Tryd.func76 kr_ rfl)
   (seqM_stops ⟨#[13, 10]⟩ a0 (by decide) hl (w.heap.size + 3) W0 (by omega) b0) (fun h k i h1 h2 => (k i h1 h2).trans (h i h1 h2)) (fun W l o o' hl _ _ _ k h1 h2 => World.putObj_heap_other (by omega)) (Below.refl _ _) (fun _ => rfl)
   (fun pre W => head_read.Inv k w.heap.size pre W ∧ Below w.heap.size w W)
   (fun pre W => (o = none ∧ W.heap[w.heap.size]? = some (.cells #[.string ⟨#[]⟩, .string ⟨#[]⟩, .string ⟨#[]⟩, .slice none 0 0, .slice none 0 0] 26 (0, 0)) ∧ W.heap[w.heap.size + 1]? = some (.cells #[.bool false] 4 (0, 0))) ∧ Below w.heap.size w W)
   (OwnFrom.and (Own.from (fun s A B row hs hg hr => hs.grown hg hr) _) (ownFrom_below (Nat.le_refl _) (by omega)))
   (OwnFrom.and (Own.from (fun s A B row hs hg hr => ⟨hs.1, (grownBy_keepsCells hg hr hs.2.1).trans hs.2.1, (grownBy_keepsCells hg hr hs.2.2).trans hs.2.2⟩) _) (ownFrom_below (Nat.le_refl _) (by omega)))
   (fun s A v hs => ⟨hs.1.box v, hs.2.setCell (p := ⟨w.heap.size + 3, 0, none⟩) (by simp) _⟩)
   (fun _ _ hs => gm_ hG hs.2)
   ⟨hI0, hB0⟩
   (fun x => { tmps := #[.string a0, undef, .pointer (some ⟨w.heap.size, 0, none⟩), .pointer (some ⟨w.heap.size + 1, 0, none⟩), .pointer (some ⟨w.heap.size + 2, 0, none⟩), .string x, undef, undef, .string a0, .func (.func 76) #[] #[.pointer (some ⟨w.heap.size + 4, 0, none⟩), .pointer (some ⟨w.heap.size + 3, 0, none⟩), .pointer (some ⟨w.heap.size + 5, 0, none⟩)], .string x, undef, undef, undef, undef, undef, undef, undef, undef, undef, undef, undef, undef, undef, undef, undef, undef, undef, undef, undef, undef, undef, undef, undef, undef, undef, undef, undef, undef, undef, undef, undef, undef, undef, undef, undef, undef, undef, undef, undef, undef, undef, undef, undef], defers := [] }) ?assign ?body ?done ?stop
  case assign =>
   intro l x W K hK
   gi_wp2
   exact hK
  case body =>
   rintro l pre x W ⟨hI, hB⟩ ⟨rest, hrest⟩
   have hsz := hI.sz
   have hln : pre.length ≤ 4294967281 := by
    have h1 := cuts_length (fun t => Go.Lib.index t.data.toList (⟨#[13, 10]⟩ : ByteArray).data.toList) (⟨#[13, 10]⟩ : ByteArray).size a0.size a0
    have h2 : ((pre ++ [x]) ++ rest).length = (piecesM ⟨#[13, 10]⟩ a0).length := by rw [hrest]
    rw [List.length_append, List.length_append] at h2
    unfold piecesM at h2
    omega
   have hn := hI.nb
   have HI := Aside0.mk hI
   have HB := Aside0.mk hB
   have HEND := Aside0.mk hend
   rcases hI.ex with ⟨rfl, hr, hk⟩ | ⟨hne, m, ho, pa, q, hs, A1, A2, c1, c2, hadv, hr, hk, hR1, hR2⟩
   ·have hg : head_read.go k (x :: rest) none = some o := by rw [← hgo, ← hrest]; rfl
    simp only [head_read.go] at hg
    obtain ⟨⟨p1, p2, p3, p4, p5, p6⟩, hfi, hg⟩ := Option.bind_eq_some_iff.1 hg
    simp only at hg
    have HFI := Aside0.mk hfi
    have HG := Aside0.mk hg
    have HSZ := Aside0.mk hsz
    clear hI hB hend hsz hfi hg hln hgo
    have n0 : W.cell? ⟨w.heap.size + 2, 0, none⟩ = some (.int .i64 0) := blk_cell hn 0
    have n1 := blk_frozen hn 0
    have HR := Aside0.mk hr
    have HK := Aside0.mk hk
    have HN := Aside0.mk hn
    clear hn hr hk
    cases p6 with
    | true =>
     gi_wp2_with (refine ⟨trivial, ?_⟩; gi_at_call 35; with_reducible refine (CallsIn.inRound l (callsIn_wide.2 (head_first.calls k x p1 p2 p3 p4 p5 true _ HFI.out))).mono ?_; rintro e w1 ⟨v3, v4, rfl, hR3, hR4, hd⟩; obtain ⟨A3, c3, rfl, _, _⟩ := Kd.R_reads hR3; obtain ⟨A4, c4, rfl, _, _⟩ := Kd.R_reads hR4; have HR3 := Aside0.mk hR3; have HR4 := Aside0.mk hR4; have HD := Aside0.mk hd; have HR1 := am_ ((hd.block w.heap.size (by have := HSZ.out; simp; omega)).trans ((Below.heap_setCell W ⟨w.heap.size + 2, 0, none⟩ _ w.heap.size (by simp)).trans HR.out)); have HK1 := am_ ((hd.block (w.heap.size + 1) (by have := HSZ.out; simp; omega)).trans ((Below.heap_setCell W ⟨w.heap.size + 2, 0, none⟩ _ (w.heap.size + 1) (by simp)).trans HK.out)); have HN1 := am_ ((hd.block (w.heap.size + 2) (by have := HSZ.out; simp; omega)).trans (blk_put HN.out 0 _ rfl)); clear hR3 hR4 hd; have g0 := (blk_cell HR1.out 0).trans rfl; have g1 := (blk_cell HR1.out 1).trans rfl; have g2 := (blk_cell HR1.out 2).trans rfl; have g3 := (blk_cell HR1.out 3).trans rfl; have g4 := (blk_cell HR1.out 4).trans rfl; have f0 := blk_frozen HR1.out 0; have f1 := blk_frozen HR1.out 1; have f2 := blk_frozen HR1.out 2; have f3 := blk_frozen HR1.out 3; have f4 := blk_frozen HR1.out 4; have k0 := (blk_cell HK1.out 0).trans rfl; have kf := blk_frozen HK1.out 0)
     have hk3 : KeepsFrom (w.heap.size + 6) W w1 := ((KeepsOthers.setCell W ⟨w.heap.size + 2, 0, none⟩ (.int .i64 1)).from _).trans ⟨HD.out.size, fun q o' _ hq _ => (HD.out.block q (Array.getElem?_eq_some_iff.1 hq).1).trans hq⟩
     have hk4 : Keeps3 (w.heap.size + 3) W w1 := fun q h1 h2 => (HD.out.block q (by have := HSZ.out; simp; omega)).trans (Below.heap_setCell W ⟨w.heap.size + 2, 0, none⟩ _ q (by show q ≠ w.heap.size + 2; omega))
     have hb4 : Below w.heap.size w w1 := (HB.out.setCell (p := ⟨w.heap.size + 2, 0, none⟩) (by simp) (.int .i64 1)).trans (HD.out.mono (by have := HB.out.size; simp; omega))
     have far : ∀ q, q ≠ w.heap.size → q ≠ w.heap.size + 1 → (((((((w1.setCell ⟨w.heap.size, 0, none⟩ (.string p1)).setCell ⟨w.heap.size, 1, none⟩ (.string p2)).setCell ⟨w.heap.size, 2, none⟩ (.string p3)).setCell ⟨w.heap.size, 3, none⟩ (.slice A3 p4.length c3)).setCell ⟨w.heap.size, 4, none⟩ (.slice A4 p5.length c4))).setCell ⟨w.heap.size + 1, 0, none⟩ (.bool true)).heap[q]? = w1.heap[q]? := fun q h1 h2 => (Below.heap_setCell _ ⟨w.heap.size + 1, 0, none⟩ _ q h2).trans (s5_far _ _ _ _ _ _ _ q h1)
     have h2sz := HD.out.size
     refine ⟨(hk3.trans (s5_keeps _ _ _ _ _ _ _ _)).trans ((KeepsOthers.setCell _ _ _).from _), fun q h1 h2 => (far q (by omega) (by omega)).trans (hk4 q h1 h2), ⟨.inr ⟨by simp, p1, p2, p3, p4, p5, A3, A4, c3, c4, fun rest => ?_, (Below.heap_setCell _ ⟨w.heap.size + 1, 0, none⟩ _ w.heap.size (by simp)).trans (s5_at HR1.out _ _ _ _ _), blk_put ((s5_far _ _ _ _ _ _ _ _ (by simp)).trans HK1.out) 0 _ rfl, ?_, ?_⟩, (far _ (by simp) (by simp)).trans HN1.out, by have := HSZ.out; simp at h2sz ⊢; omega⟩, (s5_below hb4 (Nat.le_refl _) _ _ _ _ _).setCell (p := ⟨w.heap.size + 1, 0, none⟩) (by simp) _⟩
     ·show head_read.go k (x :: rest) none = _
      simp only [head_read.go, HFI.out, Option.bind_some, if_true]
     ·exact Kd.R_mono (Kd.R_lower (Kd.R_step (Kd.R_bound HR3.out) (fun q hq _ => far q (by have := HSZ.out; have := hq.2.1; simp at this; omega) (by have := HSZ.out; have := hq.2.1; simp at this; omega))) (by have := HSZ.out; simp; omega)) (fun q hq => ⟨by have := HSZ.out; have := hq.2.1; simp at this; omega, hq.1⟩)
     ·exact Kd.R_mono (Kd.R_lower (Kd.R_step (Kd.R_bound HR4.out) (fun q hq _ => far q (by have := HSZ.out; have := hq.2.1; simp at this; omega) (by have := HSZ.out; have := hq.2.1; simp at this; omega))) (by have := HSZ.out; simp; omega)) (fun q hq => ⟨by have := HSZ.out; have := hq.2.1; simp at this; omega, hq.1⟩)
    | false =>
     gi_wp2_with (refine ⟨trivial, ?_⟩; gi_at_call 35; with_reducible refine (CallsIn.inRound l (callsIn_wide.2 (head_first.calls k x p1 p2 p3 p4 p5 false _ HFI.out))).mono ?_; rintro e w1 ⟨v3, v4, rfl, hR3, hR4, hd⟩; obtain ⟨A3, c3, rfl, _, _⟩ := Kd.R_reads hR3; obtain ⟨A4, c4, rfl, _, _⟩ := Kd.R_reads hR4; have HR3 := Aside0.mk hR3; have HR4 := Aside0.mk hR4; have HD := Aside0.mk hd; have HR1 := am_ ((hd.block w.heap.size (by have := HSZ.out; simp; omega)).trans ((Below.heap_setCell W ⟨w.heap.size + 2, 0, none⟩ _ w.heap.size (by simp)).trans HR.out)); have HK1 := am_ ((hd.block (w.heap.size + 1) (by have := HSZ.out; simp; omega)).trans ((Below.heap_setCell W ⟨w.heap.size + 2, 0, none⟩ _ (w.heap.size + 1) (by simp)).trans HK.out)); have HN1 := am_ ((hd.block (w.heap.size + 2) (by have := HSZ.out; simp; omega)).trans (blk_put HN.out 0 _ rfl)); clear hR3 hR4 hd; have g0 := (blk_cell HR1.out 0).trans rfl; have g1 := (blk_cell HR1.out 1).trans rfl; have g2 := (blk_cell HR1.out 2).trans rfl; have g3 := (blk_cell HR1.out 3).trans rfl; have g4 := (blk_cell HR1.out 4).trans rfl; have f0 := blk_frozen HR1.out 0; have f1 := blk_frozen HR1.out 1; have f2 := blk_frozen HR1.out 2; have f3 := blk_frozen HR1.out 3; have f4 := blk_frozen HR1.out 4; have k0 := (blk_cell HK1.out 0).trans rfl; have kf := blk_frozen HK1.out 0)
     have hk3 : KeepsFrom (w.heap.size + 6) W w1 := ((KeepsOthers.setCell W ⟨w.heap.size + 2, 0, none⟩ (.int .i64 1)).from _).trans ⟨HD.out.size, fun q o' _ hq _ => (HD.out.block q (Array.getElem?_eq_some_iff.1 hq).1).trans hq⟩
     have hb4 : Below w.heap.size w w1 := (HB.out.setCell (p := ⟨w.heap.size + 2, 0, none⟩) (by simp) (.int .i64 1)).trans (HD.out.mono (by have := HB.out.size; simp; omega))
     have hba := bad_after HR1.out HK1.out (.string p1) (.string p2) (.string p3) (.slice A3 p4.length c3) (.slice A4 p5.length c4)
     exact ⟨hk3.trans (hba.2.2.1 _), ⟨(Option.some.inj ((if_neg (by decide)).symm.trans HG.out)).symm, hba.1, hba.2.1⟩, hba.2.2.2 _ _ (Nat.le_refl _) hb4⟩
   ·have hg : head_read.go k (x :: rest) (some (m, ho, pa, q, hs)) = some o := by
     rw [← hadv, ← hgo, ← hrest, List.append_assoc]
     rfl
    simp only [head_read.go] at hg
    obtain ⟨⟨d1, d2, d3⟩, hfi, hg⟩ := Option.bind_eq_some_iff.1 hg
    simp only at hg
    have hp1 : 1 ≤ pre.length := by cases pre with | nil => exact absurd rfl hne | cons a b => simp
    have HFI := Aside0.mk hfi
    have HG := Aside0.mk hg
    have HSZ := Aside0.mk hsz
    have HADV := Aside0.mk hadv
    have HLN := Aside0.mk hln
    have HP1 := Aside0.mk hp1
    have n0 : W.cell? ⟨w.heap.size + 2, 0, none⟩ = some (.int .i64 (pre.length : Int)) := blk_cell hn 0
    have n1 := blk_frozen hn 0
    have HR := Aside0.mk hr
    have HK := Aside0.mk hk
    have HN := Aside0.mk hn
    have HR1 := Aside0.mk hR1
    have HR2 := Aside0.mk hR2
    have hw0 : IntKind.i64.wrap ((pre.length : Int) + 1) = (pre.length : Int) + 1 := by rw [IntKind.wrap_i64]; omega
    have hw1 : ((pre.length : Int) + 1 == 1) = false := beq_eq_false_iff_ne.2 (by omega)
    clear hI hB hend hsz hfi hg hln hgo hadv hn hr hk hR1 hR2 hp1 hne
    have far2 : ∀ j, j ≠ w.heap.size + 2 → (W.setCell ⟨w.heap.size + 2, 0, none⟩ (.int .i64 ((pre.length : Int) + 1))).heap[j]? = W.heap[j]? := fun j hj => Below.heap_setCell W ⟨w.heap.size + 2, 0, none⟩ _ j hj
    have HRA := am_ (Kd.R_far (p := ⟨w.heap.size + 2, 0, none⟩) HR1.out (fun j hj => by show j ≠ w.heap.size + 2; omega) (.int .i64 ((pre.length : Int) + 1)))
    have HRB := am_ (Kd.R_far (p := ⟨w.heap.size + 2, 0, none⟩) HR2.out (fun j hj => by show j ≠ w.heap.size + 2; omega) (.int .i64 ((pre.length : Int) + 1)))
    have HF2 := Aside0.mk far2
    clear far2
    cases d3 with
    | true =>
     have HG2 := am_ (show _ = some o from (if_pos rfl).symm.trans HG.out)
     by_cases hlen : hs.length < 4398046511104
     ·have HLEN := am_ (show (hs.length + 1) * 32 ≤ 140737488355328 by omega)
      have HADV2 := am_ (show ∀ rest, head_read.go k ((pre ++ [x]) ++ rest) none = head_read.go k rest (some (m, ho, pa, q, hs ++ [⟨d1, d2⟩])) from fun rest => by
       rw [List.append_assoc, HADV.out]
       show head_read.go k (x :: rest) (some (m, ho, pa, q, hs)) = _
       simp only [head_read.go, HFI.out, Option.bind_some, if_true]
       rw [if_pos hlen])
      clear hlen
      gi_wp2_with (first | (refine ⟨trivial, ?_⟩; gi_at_call 36; with_reducible refine (CallsIn.inRound l (callsIn_wide.2 (head_field.calls k x d1 d2 true _ HFI.out))).mono ?_; rintro e w1 ⟨rfl, hd⟩; replace hd : Below _ _ _ := (by first | exact hd.below | exact hd); have HD := am_ (hd.alloc hd.size (.cells #[.string d1, .string d2] 35)); have h3s := HD.out.size; simp at h3s; have HR3 := am_ ((HD.out.block w.heap.size (by have := HSZ.out; simp; omega)).trans ((Below.heap_setCell W ⟨w.heap.size + 2, 0, none⟩ _ w.heap.size (by simp)).trans HR.out)); have HK3 := am_ ((HD.out.block (w.heap.size + 1) (by have := HSZ.out; simp; omega)).trans ((Below.heap_setCell W ⟨w.heap.size + 2, 0, none⟩ _ (w.heap.size + 1) (by simp)).trans HK.out)); have HN3 := am_ ((HD.out.block (w.heap.size + 2) (by have := HSZ.out; simp; omega)).trans (blk_put HN.out 0 _ rfl)); have HSZ3 := am_ (show w.heap.size + 6 ≤ (w1.alloc (.cells #[.string d1, .string d2] 35)).heap.size by have := HSZ.out; simp; omega); have HRQ := am_ (Kd.R_below (HRA.out) HD.out); have HRH := am_ (Kd.R_below (HRB.out) HD.out); have HFR := am_ (show ∀ j, (w1.alloc (.cells #[.string d1, .string d2] 35)).heap.size ≤ j → w.heap.size + 6 ≤ j ∧ some j ≠ (Value.slice A1 q.length c1).ownBlock from fun j hj => ⟨Nat.le_trans HSZ3.out hj, fun e => by obtain ⟨_, _, _, hc⟩ := R_own_cells HRQ.out e; have := (Array.getElem?_eq_some_iff.1 hc).1; omega⟩); have HBW := am_ ((HB.out.setCell (p := ⟨w.heap.size + 2, 0, none⟩) (by simp) (.int .i64 ((pre.length : Int) + 1))).trans (HD.out.mono (by have := HB.out.size; simp; omega))); clear hd h3s; have g0 := (blk_cell HR3.out 0).trans rfl; have g1 := (blk_cell HR3.out 1).trans rfl; have g2 := (blk_cell HR3.out 2).trans rfl; have g3 := (blk_cell HR3.out 3).trans rfl; have g4 := (blk_cell HR3.out 4).trans rfl; have f0 := blk_frozen HR3.out 0; have f1 := blk_frozen HR3.out 1; have f2 := blk_frozen HR3.out 2; have f3 := blk_frozen HR3.out 3; have f4 := blk_frozen HR3.out 4; have k0 := (blk_cell HK3.out 0).trans rfl; have kf := blk_frozen HK3.out 0) | ((with_reducible refine gateIn_builtin (b := .append) (xs := #[.tmp 32, .tmp 34]) rfl ?_); refine in_list (fun c h => by cases h) rfl ?_; refine Kd.R_append k35 (w0 := w) w.heap.size rfl (.tmp 32) (.tmp 34) 24 35 (.agg #[(.string ⟨#[]⟩), (.string ⟨#[]⟩)]) 32 rfl Tryd.underlying24 info35 rfl (by decide) (by omega) (.slice A2 hs.length c2) hs ⟨d1, d2⟩ [.string d1, .string d2] (fun x => w.heap.size + 6 ≤ x ∧ some x ≠ (Value.slice A1 q.length c1).ownBlock) (fun _ => False) rfl (show Value.slice (some ⟨w1.heap.size + 1, 0, none⟩) 1 1 = Value.slice (some ⟨(w1.alloc (.cells #[.string d1, .string d2] 35)).heap.size, 0, none⟩) 1 1 from by rw [World.size_alloc]) (k35_mkM _ _ _ _) (fun _ h => h.elim) HFR.out HRH.out HBW.out HBW.out.size HLEN.out ?_; intro v1 w4 hR4 hb4 hg4 hat4; obtain ⟨A5, c5, rfl⟩ := Kd.R_slice hR4; have HX := am_ (head_read.Inv.next (x := x) HADV2.out HR3.out HK3.out HN3.out HSZ3.out HRQ.out HRH.out hR4 hg4 hat4); have HBF := Aside0.mk hb4; have hb5 := (hg4.block w.heap.size (by have := HSZ3.out; omega) (fun e => by have := (R_own_cells HRH.out e).1.1; omega)).trans HR3.out; have hc2' := (blk_cell hb5 4).trans rfl; have hf2' := blk_frozen hb5 4; clear hR4 hb4 hg4 hat4 hb5; refine inK_nil ?_))
      have hk3 : KeepsFrom (w.heap.size + 6) W (w1.alloc (.cells #[.string d1, .string d2] 35)) := ((KeepsOthers.setCell W ⟨w.heap.size + 2, 0, none⟩ (.int .i64 ((pre.length : Int) + 1))).from _).trans ⟨HD.out.size, fun j o' _ hj _ => (HD.out.block j (Array.getElem?_eq_some_iff.1 hj).1).trans hj⟩
      have hk4 : Keeps3 (w.heap.size + 3) W (w1.alloc (.cells #[.string d1, .string d2] 35)) := fun j h1 h2 => (HD.out.block j (by have := HSZ.out; simp; omega)).trans (HF2.out j (by omega))
      have hl1 : (hs ++ [(⟨d1, d2⟩ : S35)]).length = hs.length + 1 := by rw [List.length_append]; rfl
      have HX2 := HX.out
      rw [hl1] at HX2
      exact ⟨hk3.trans HX2.2.2, fun j h1 h2 => (HX2.2.1 j h1 h2).trans (hk4 j h1 h2), HX2.1, HBF.out.setCell (p := ⟨w.heap.size, 4, none⟩) (by simp) _⟩
     ·have := HG2.out
      rw [if_neg hlen] at this
      cases this
    | false =>
     gi_wp2_with (first | (refine ⟨trivial, ?_⟩; gi_at_call 36; with_reducible refine (CallsIn.inRound l (callsIn_wide.2 (head_field.calls k x d1 d2 false _ HFI.out))).mono ?_; rintro e w1 ⟨rfl, hd⟩; replace hd : Below _ _ _ := (by first | exact hd.below | exact hd); have HD := am_ (hd.alloc hd.size (.cells #[.string d1, .string d2] 35)); have h3s := HD.out.size; simp at h3s; have HR3 := am_ ((HD.out.block w.heap.size (by have := HSZ.out; simp; omega)).trans ((Below.heap_setCell W ⟨w.heap.size + 2, 0, none⟩ _ w.heap.size (by simp)).trans HR.out)); have HK3 := am_ ((HD.out.block (w.heap.size + 1) (by have := HSZ.out; simp; omega)).trans ((Below.heap_setCell W ⟨w.heap.size + 2, 0, none⟩ _ (w.heap.size + 1) (by simp)).trans HK.out)); have HN3 := am_ ((HD.out.block (w.heap.size + 2) (by have := HSZ.out; simp; omega)).trans (blk_put HN.out 0 _ rfl)); have HS3 := Aside0.mk h3s; clear hd h3s; have g0 := (blk_cell HR3.out 0).trans rfl; have g1 := (blk_cell HR3.out 1).trans rfl; have g2 := (blk_cell HR3.out 2).trans rfl; have g3 := (blk_cell HR3.out 3).trans rfl; have g4 := (blk_cell HR3.out 4).trans rfl; have f0 := blk_frozen HR3.out 0; have f1 := blk_frozen HR3.out 1; have f2 := blk_frozen HR3.out 2; have f3 := blk_frozen HR3.out 3; have f4 := blk_frozen HR3.out 4; have k0 := (blk_cell HK3.out 0).trans rfl; have kf := blk_frozen HK3.out 0))
     have hk3 : KeepsFrom (w.heap.size + 6) W (w1.alloc (.cells #[.string d1, .string d2] 35)) := ((KeepsOthers.setCell W ⟨w.heap.size + 2, 0, none⟩ (.int .i64 ((pre.length : Int) + 1))).from _).trans ⟨HD.out.size, fun j o' _ hj _ => (HD.out.block j (Array.getElem?_eq_some_iff.1 hj).1).trans hj⟩
     have hb4 : Below w.heap.size w (w1.alloc (.cells #[.string d1, .string d2] 35)) := (HB.out.setCell (p := ⟨w.heap.size + 2, 0, none⟩) (by simp) (.int .i64 ((pre.length : Int) + 1))).trans (HD.out.mono (by have := HB.out.size; simp; omega))
     have hba := put_after HR3.out HK3.out (.string ⟨#[]⟩) (.string ⟨#[]⟩) (.string ⟨#[]⟩) (.slice none 0 0) (.slice none 0 0) false
     exact ⟨hk3.trans (hba.2.2.1 _), ⟨(Option.some.inj ((if_neg (by decide)).symm.trans HG.out)).symm, hba.1, hba.2.1⟩, hba.2.2.2.1 _ _ (Nat.le_refl _) hb4⟩
  case done =>
   rintro D ys W hD rfl ⟨hI, hB⟩ hK
   have hsz := hI.sz
   rcases hI.ex with ⟨h1, _⟩ | ⟨hne, m, ho, pa, q, hs, A1, A2, c1, c2, hadv, hr, hk, hR1, hR2⟩
   ·rw [h1] at hgo
    obtain rfl : some none = o := Option.some.inj hgo
    cases hend
   ·have ho2 : o = some (some (m, ho, pa, q, hs)) := by
     have h2 := hadv []
     rw [List.append_nil, hgo] at h2
     exact Option.some.inj h2
    subst ho2
    obtain ⟨⟨hst, okb⟩, ha, hend2⟩ := Option.bind_eq_some_iff.1 hend
    simp only at ha hend2
    have hC := (Kd.R_reads' hR2).2
    have g0 := (blk_cell hr 0).trans rfl
    have g1 := (blk_cell hr 1).trans rfl
    have g2 := (blk_cell hr 2).trans rfl
    have g3 := (blk_cell hr 3).trans rfl
    have g4 := (blk_cell hr 4).trans rfl
    cases okb with
    | true =>
     rw [if_pos rfl] at hend2
     gi_wp2_with (refine ⟨trivial, ?_⟩; gi_at_call 23; with_reducible refine (callsIn_wide.2 (head_asked.calls k A2 c2 hs hst true _ hC.2 hC.1 ha)).mono ?_; rintro e w1 ⟨rfl, hd⟩; replace hd : Below _ _ _ := (by first | exact hd.below | exact hd); have HD := Aside0.mk hd; have HR3 := am_ ((hd.block w.heap.size (by omega)).trans hr); have HK3 := am_ ((hd.block (w.heap.size + 1) (by omega)).trans hk); clear hd; have g0 := (blk_cell HR3.out 0).trans rfl; have g1 := (blk_cell HR3.out 1).trans rfl; have g2 := (blk_cell HR3.out 2).trans rfl; have g3 := (blk_cell HR3.out 3).trans rfl; have g4 := (blk_cell HR3.out 4).trans rfl; have f0 := blk_frozen HR3.out 0; have f1 := blk_frozen HR3.out 1; have f2 := blk_frozen HR3.out 2; have f3 := blk_frozen HR3.out 3; have f4 := blk_frozen HR3.out 4; have k0 := (blk_cell HK3.out 0).trans rfl; have kf := blk_frozen HK3.out 0)
     ·have hlo : ¬ hs.length ≤ 30 := by omega
      have hq := Option.some.inj ((if_neg hlo).symm.trans hend2)
      simp only [Prod.mk.injEq] at hq
      obtain ⟨rfl, rfl, rfl, rfl, rfl, rfl⟩ := hq
      obtain ⟨Y, hY⟩ : ∃ Y, Y = (w1.setCell ⟨w.heap.size, 1, none⟩ (.string hst)).setCell ⟨w.heap.size + 1, 0, none⟩ (.bool true) := ⟨_, rfl⟩
      have hjY : ∀ j, j ≠ w.heap.size → j ≠ w.heap.size + 1 → Y.heap[j]? = w1.heap[j]? := fun j h1 h2 => by rw [hY]; exact (Below.heap_setCell _ ⟨w.heap.size + 1, 0, none⟩ _ j h2).trans (Below.heap_setCell _ ⟨w.heap.size, 1, none⟩ _ j h1)
      have hrY := (Below.heap_setCell (w1.setCell ⟨w.heap.size, 1, none⟩ (.string hst)) ⟨w.heap.size + 1, 0, none⟩ (.bool true) w.heap.size (by simp)).trans (blk_put HR3.out 1 (.string hst) rfl)
      have hkY := blk_put ((Below.heap_setCell w1 ⟨w.heap.size, 1, none⟩ (.string hst) (w.heap.size + 1) (by simp)).trans HK3.out) 0 (.bool true) rfl
      have hBY : Below w.heap.size w Y := by rw [hY]; exact ((hB.trans (HD.out.mono hB.size)).setCell (p := ⟨w.heap.size, 1, none⟩) (by simp) _).setCell (p := ⟨w.heap.size + 1, 0, none⟩) (by simp) _
      rw [← hY] at hrY hkY ⊢
      have hp := put_after hrY hkY (.string ⟨#[]⟩) (.string ⟨#[]⟩) (.string ⟨#[]⟩) (.slice none 0 0) (.slice none 0 0) false
      obtain ⟨X, hX⟩ : ∃ X, X = (((((Y.setCell ⟨w.heap.size, 0, none⟩ (.string ⟨#[]⟩)).setCell ⟨w.heap.size, 1, none⟩ (.string ⟨#[]⟩)).setCell ⟨w.heap.size, 2, none⟩ (.string ⟨#[]⟩)).setCell ⟨w.heap.size, 3, none⟩ (.slice none 0 0)).setCell ⟨w.heap.size, 4, none⟩ (.slice none 0 0)).setCell ⟨w.heap.size + 1, 0, none⟩ (.bool false) := ⟨_, rfl⟩
      rw [← hX] at hp ⊢
      obtain ⟨hr5, hk5, _, hb5, hj5⟩ := hp
      have hjX : ∀ j, w.heap.size + 6 ≤ j → X.heap[j]? = w1.heap[j]? := fun j hj => (hj5 j (by omega) (by omega)).trans (hjY j (by omega) (by omega))
      have hKX : X.heap[D]? = some (.deferred (some [])) := (hjX D (by omega)).trans ((HD.out.block D (Array.getElem?_eq_some_iff.1 hK).1).trans hK)
      have hBX := hb5 _ w (Nat.le_refl _) hBY
      have hr6 := (grownBy_keepsCells (grownBy_putObj' X D (.deferred none)) (fun r e => by cases e; exact ⟨_, hKX, rfl⟩) hr5).trans hr5
      have hk6 := (grownBy_keepsCells (grownBy_putObj' X D (.deferred none)) (fun r e => by cases e; exact ⟨_, hKX, rfl⟩) hk5).trans hk5
      clear g0 g1 g2 g3 g4 k0 hX hY
      have g0 := (blk_cell hr6 0).trans rfl
      have g1 := (blk_cell hr6 1).trans rfl
      have g2 := (blk_cell hr6 2).trans rfl
      have g3 := (blk_cell hr6 3).trans rfl
      have g4 := (blk_cell hr6 4).trans rfl
      have k0 := (blk_cell hk6 0).trans rfl
      refine ⟨by simp, .inl ⟨_, _, rfl, run_takeDeferred hKX, ?_⟩⟩
      refine ⟨.tuple #[.agg #[.string ⟨#[]⟩, .string ⟨#[]⟩, .string ⟨#[]⟩, .slice none 0 0, .slice none 0 0], .bool false], ?_, _, _, rfl, Kd.R_nil _ _ _ _ _, Kd.R_nil _ _ _ _ _, hBX.trans (belowK_b (w := w) (Nat.le_refl _) X D _ _ (by omega) hKX rfl rfl)⟩
      simp [results, Tryd.f21, go_sem, g0, g1, g2, g3, g4, k0]
     ·have hlo : hs.length ≤ 30 := by omega
      have hq := Option.some.inj ((if_pos hlo).symm.trans hend2)
      simp only [Prod.mk.injEq] at hq
      obtain ⟨rfl, rfl, rfl, rfl, rfl, rfl⟩ := hq
      obtain ⟨Y, hY⟩ : ∃ Y, Y = (w1.setCell ⟨w.heap.size, 1, none⟩ (.string hst)).setCell ⟨w.heap.size + 1, 0, none⟩ (.bool true) := ⟨_, rfl⟩
      have hjY : ∀ j, j ≠ w.heap.size → j ≠ w.heap.size + 1 → Y.heap[j]? = w1.heap[j]? := fun j h1 h2 => by rw [hY]; exact (Below.heap_setCell _ ⟨w.heap.size + 1, 0, none⟩ _ j h2).trans (Below.heap_setCell _ ⟨w.heap.size, 1, none⟩ _ j h1)
      have hrY := (Below.heap_setCell (w1.setCell ⟨w.heap.size, 1, none⟩ (.string hst)) ⟨w.heap.size + 1, 0, none⟩ (.bool true) w.heap.size (by simp)).trans (blk_put HR3.out 1 (.string hst) rfl)
      have hkY := blk_put ((Below.heap_setCell w1 ⟨w.heap.size, 1, none⟩ (.string hst) (w.heap.size + 1) (by simp)).trans HK3.out) 0 (.bool true) rfl
      have hBY : Below w.heap.size w Y := by rw [hY]; exact ((hB.trans (HD.out.mono hB.size)).setCell (p := ⟨w.heap.size, 1, none⟩) (by simp) _).setCell (p := ⟨w.heap.size + 1, 0, none⟩) (by simp) _
      rw [← hY] at hrY hkY ⊢
      have hp := put_after hrY hkY (.string m) (.string hst) (.string pa) (.slice A1 q.length c1) (.slice A2 hs.length c2) true
      obtain ⟨X, hX⟩ : ∃ X, X = (((((Y.setCell ⟨w.heap.size, 0, none⟩ (.string m)).setCell ⟨w.heap.size, 1, none⟩ (.string hst)).setCell ⟨w.heap.size, 2, none⟩ (.string pa)).setCell ⟨w.heap.size, 3, none⟩ (.slice A1 q.length c1)).setCell ⟨w.heap.size, 4, none⟩ (.slice A2 hs.length c2)).setCell ⟨w.heap.size + 1, 0, none⟩ (.bool true) := ⟨_, rfl⟩
      rw [← hX] at hp ⊢
      obtain ⟨hr5, hk5, _, hb5, hj5⟩ := hp
      have hjX : ∀ j, w.heap.size + 6 ≤ j → X.heap[j]? = w1.heap[j]? := fun j hj => (hj5 j (by omega) (by omega)).trans (hjY j (by omega) (by omega))
      have hKX : X.heap[D]? = some (.deferred (some [])) := (hjX D (by omega)).trans ((HD.out.block D (Array.getElem?_eq_some_iff.1 hK).1).trans hK)
      have hBX := hb5 _ w (Nat.le_refl _) hBY
      have hr6 := (grownBy_keepsCells (grownBy_putObj' X D (.deferred none)) (fun r e => by cases e; exact ⟨_, hKX, rfl⟩) hr5).trans hr5
      have hk6 := (grownBy_keepsCells (grownBy_putObj' X D (.deferred none)) (fun r e => by cases e; exact ⟨_, hKX, rfl⟩) hk5).trans hk5
      clear g0 g1 g2 g3 g4 k0 hX hY
      have g0 := (blk_cell hr6 0).trans rfl
      have g1 := (blk_cell hr6 1).trans rfl
      have g2 := (blk_cell hr6 2).trans rfl
      have g3 := (blk_cell hr6 3).trans rfl
      have g4 := (blk_cell hr6 4).trans rfl
      have k0 := (blk_cell hk6 0).trans rfl
      have hX1 := R_put_walk (o' := .deferred none) (Kd.R_step (Kd.R_below hR1 HD.out) (fun j hj _ => hjX j hj.1)) hKX rfl
      have hX2 := R_put_walk (o' := .deferred none) (Kd.R_step (Kd.R_below hR2 HD.out) (fun j hj _ => hjX j hj.1)) hKX rfl
      refine ⟨by simp, .inl ⟨_, _, rfl, run_takeDeferred hKX, ?_⟩⟩
      refine ⟨.tuple #[.agg #[.string m, .string hst, .string pa, .slice A1 q.length c1, .slice A2 hs.length c2], .bool true], ?_, _, _, rfl, Kd.R_mono hX1 (fun _ h => h.2), Kd.R_mono hX2 (fun _ h => h.2), hBX.trans (belowK_b (w := w) (Nat.le_refl _) X D _ _ (by omega) hKX rfl rfl)⟩
      simp [results, Tryd.f21, go_sem, g0, g1, g2, g3, g4, k0]
    | false =>
     rw [if_neg (by decide)] at hend2
     gi_wp2_with (refine ⟨trivial, ?_⟩; gi_at_call 23; with_reducible refine (callsIn_wide.2 (head_asked.calls k A2 c2 hs hst false _ hC.2 hC.1 ha)).mono ?_; rintro e w1 ⟨rfl, hd⟩; replace hd : Below _ _ _ := (by first | exact hd.below | exact hd); have HD := Aside0.mk hd; have HR3 := am_ ((hd.block w.heap.size (by omega)).trans hr); have HK3 := am_ ((hd.block (w.heap.size + 1) (by omega)).trans hk); clear hd; have g0 := (blk_cell HR3.out 0).trans rfl; have g1 := (blk_cell HR3.out 1).trans rfl; have g2 := (blk_cell HR3.out 2).trans rfl; have g3 := (blk_cell HR3.out 3).trans rfl; have g4 := (blk_cell HR3.out 4).trans rfl; have f0 := blk_frozen HR3.out 0; have f1 := blk_frozen HR3.out 1; have f2 := blk_frozen HR3.out 2; have f3 := blk_frozen HR3.out 3; have f4 := blk_frozen HR3.out 4; have k0 := (blk_cell HK3.out 0).trans rfl; have kf := blk_frozen HK3.out 0)
     have hq := Option.some.inj (hend2)
     simp only [Prod.mk.injEq] at hq
     obtain ⟨rfl, rfl, rfl, rfl, rfl, rfl⟩ := hq
     obtain ⟨Y, hY⟩ : ∃ Y, Y = (w1.setCell ⟨w.heap.size, 1, none⟩ (.string hst)).setCell ⟨w.heap.size + 1, 0, none⟩ (.bool false) := ⟨_, rfl⟩
     have hjY : ∀ j, j ≠ w.heap.size → j ≠ w.heap.size + 1 → Y.heap[j]? = w1.heap[j]? := fun j h1 h2 => by rw [hY]; exact (Below.heap_setCell _ ⟨w.heap.size + 1, 0, none⟩ _ j h2).trans (Below.heap_setCell _ ⟨w.heap.size, 1, none⟩ _ j h1)
     have hrY := (Below.heap_setCell (w1.setCell ⟨w.heap.size, 1, none⟩ (.string hst)) ⟨w.heap.size + 1, 0, none⟩ (.bool false) w.heap.size (by simp)).trans (blk_put HR3.out 1 (.string hst) rfl)
     have hkY := blk_put ((Below.heap_setCell w1 ⟨w.heap.size, 1, none⟩ (.string hst) (w.heap.size + 1) (by simp)).trans HK3.out) 0 (.bool false) rfl
     have hBY : Below w.heap.size w Y := by rw [hY]; exact ((hB.trans (HD.out.mono hB.size)).setCell (p := ⟨w.heap.size, 1, none⟩) (by simp) _).setCell (p := ⟨w.heap.size + 1, 0, none⟩) (by simp) _
     rw [← hY] at hrY hkY ⊢
     have hp := put_after hrY hkY (.string ⟨#[]⟩) (.string ⟨#[]⟩) (.string ⟨#[]⟩) (.slice none 0 0) (.slice none 0 0) false
     obtain ⟨X, hX⟩ : ∃ X, X = (((((Y.setCell ⟨w.heap.size, 0, none⟩ (.string ⟨#[]⟩)).setCell ⟨w.heap.size, 1, none⟩ (.string ⟨#[]⟩)).setCell ⟨w.heap.size, 2, none⟩ (.string ⟨#[]⟩)).setCell ⟨w.heap.size, 3, none⟩ (.slice none 0 0)).setCell ⟨w.heap.size, 4, none⟩ (.slice none 0 0)).setCell ⟨w.heap.size + 1, 0, none⟩ (.bool false) := ⟨_, rfl⟩
     rw [← hX] at hp ⊢
     obtain ⟨hr5, hk5, _, hb5, hj5⟩ := hp
     have hjX : ∀ j, w.heap.size + 6 ≤ j → X.heap[j]? = w1.heap[j]? := fun j hj => (hj5 j (by omega) (by omega)).trans (hjY j (by omega) (by omega))
     have hKX : X.heap[D]? = some (.deferred (some [])) := (hjX D (by omega)).trans ((HD.out.block D (Array.getElem?_eq_some_iff.1 hK).1).trans hK)
     have hBX := hb5 _ w (Nat.le_refl _) hBY
     have hr6 := (grownBy_keepsCells (grownBy_putObj' X D (.deferred none)) (fun r e => by cases e; exact ⟨_, hKX, rfl⟩) hr5).trans hr5
     have hk6 := (grownBy_keepsCells (grownBy_putObj' X D (.deferred none)) (fun r e => by cases e; exact ⟨_, hKX, rfl⟩) hk5).trans hk5
     clear g0 g1 g2 g3 g4 k0 hX hY
     have g0 := (blk_cell hr6 0).trans rfl
     have g1 := (blk_cell hr6 1).trans rfl
     have g2 := (blk_cell hr6 2).trans rfl
     have g3 := (blk_cell hr6 3).trans rfl
     have g4 := (blk_cell hr6 4).trans rfl
     have k0 := (blk_cell hk6 0).trans rfl
     refine ⟨by simp, .inl ⟨_, _, rfl, run_takeDeferred hKX, ?_⟩⟩
     refine ⟨.tuple #[.agg #[.string ⟨#[]⟩, .string ⟨#[]⟩, .string ⟨#[]⟩, .slice none 0 0, .slice none 0 0], .bool false], ?_, _, _, rfl, Kd.R_nil _ _ _ _ _, Kd.R_nil _ _ _ _ _, hBX.trans (belowK_b (w := w) (Nat.le_refl _) X D _ _ (by omega) hKX rfl rfl)⟩
     simp [results, Tryd.f21, go_sem, g0, g1, g2, g3, g4, k0]
  case stop =>
   rintro D pre W hD hpre ⟨⟨rfl, hr, hk⟩, hB⟩ hK
   have hq := Option.some.inj (show some ((⟨#[]⟩ : ByteArray), (⟨#[]⟩ : ByteArray), (⟨#[]⟩ : ByteArray), ([] : List S35), ([] : List S35), false) = some (r1, r2, r3, r4, r5, r6) from hend)
   simp only [Prod.mk.injEq] at hq
   obtain ⟨rfl, rfl, rfl, rfl, rfl, rfl⟩ := hq
   gi_wp2
   refine ⟨by simp, .inl ⟨_, _, rfl, run_takeDeferred hK, ?_⟩⟩
   have hr2 := (grownBy_keepsCells (grownBy_putObj' W D (.deferred none)) (fun r e => by cases e; exact ⟨_, hK, rfl⟩) hr).trans hr
   have hk2 := (grownBy_keepsCells (grownBy_putObj' W D (.deferred none)) (fun r e => by cases e; exact ⟨_, hK, rfl⟩) hk).trans hk
   have g0 := (blk_cell hr2 0).trans rfl
   have g1 := (blk_cell hr2 1).trans rfl
   have g2 := (blk_cell hr2 2).trans rfl
   have g3 := (blk_cell hr2 3).trans rfl
   have g4 := (blk_cell hr2 4).trans rfl
   have k0 := (blk_cell hk2 0).trans rfl
   refine ⟨.tuple #[.agg #[.string ⟨#[]⟩, .string ⟨#[]⟩, .string ⟨#[]⟩, .slice none 0 0, .slice none 0 0], .bool false], ?_, _, _, rfl, Kd.R_nil _ _ _ _ _, Kd.R_nil _ _ _ _ _, hB.trans (belowK_b (w := w) (Nat.le_refl _) W D _ _ (by omega) hK rfl rfl)⟩
   simp [results, Tryd.f21, go_sem, g0, g1, g2, g3, g4, k0]
 ·rw [if_neg hl] at h; cases h
end

end Go.Proofs.YtpmllmfamjpinaaDoor.P
