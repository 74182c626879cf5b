-- written by wip/tool/hprint.py of this repo: the kit's print, with contracts by hand joined; Lean checks it.
import Derived.Test.YtompldnifiieaaaDoorPx0
import Derived.Test.YtompldnifiieaaaDoorPx10
namespace Go.Proofs.YtompldnifiieaaaDoor.P
open Go.RowKit Go.Proofs.YtompldnifiieaaaDoorW.PrintWords Go.Proofs.YtompldnifiieaaaDoorW.PrintLast Go.Proofs.YtompldnifiieaaaDoorW.PrintMore
attribute [local go_sem] max2_int min2_int max_two min_two max_three min_three max_four min_four   -- for this text's walks alone
set_option linter.unusedVariables false
set_option linter.unusedSimpArgs false

/-! ### tollref03_Holds: function 40 -/
noncomputable def tollref03_Holds.j0 : Nat → ByteArray → Bool → Int → ByteArray → Option (Bool)
 | 0, _, _, _, _ => none
 | k + 1, x1, x13, x207000, x207001 => if x13 = true then (some false) else (if x207000 = 1 then (some (x207001.toList == x1.toList)) else (if x207001.toList = x1.toList then (some (x207001.toList == x1.toList)) else (if (x207001.size : Int) = 1 then (some true) else (if (x1.size : Int) > (x207001.size : Int) then (if 0 ≤ (x207001.size : Int) then (if (x207001.size : Int) ≤ (x1.size : Int) then (if (x1.extract 0 x207001.size).toList = x207001.toList then (if (x207001.size : Int) < (x1.size : Int) then (some ((bt x1 (x207001.size : Int)) == 47)) else (none)) else (some false)) else (none)) else (none)) else (some false)))))
noncomputable def tollref03_Holds.f (k : Nat) (a0_0 : Int) (a0_1 : ByteArray) (a1 : ByteArray) : Option (Bool) := (tollref03_May.f k a0_0 a0_1).bind fun t207 => (if t207 = true then ((tollref03_Is.f k a1).bind fun t208 => (tollref03_Holds.j0 k a1 (!t208) a0_0 a0_1)) else (tollref03_Holds.j0 k a1 true a0_0 a0_1))
theorem tollref03_Holds.mono_l : ∀ k, (∀ y0 y1 y2 y3, LeO (tollref03_Holds.j0 k y0 y1 y2 y3) (tollref03_Holds.j0 (k + 1) y0 y1 y2 y3))
 | 0 => fun _ _ _ _ r h => by simp [tollref03_Holds.j0] at h
 | k + 1 => by
  have ih0 := tollref03_Holds.mono_l k
  ·intro y0 y1 y2 y3
   unfold tollref03_Holds.j0
   repeat' first
   | (with_reducible exact ih0 _ _ _ _)
   | (with_reducible exact tollref03_Is.mono _ _)
   | (with_reducible exact tollref03_May.mono _ _ _)
   | (with_reducible exact LeO.refl _)
   | (with_reducible exact LeO.none _)
   | (with_reducible refine LeO.ite ?_ ?_)
   | (with_reducible refine LeO.bind ?_ (fun _ => ?_))
   | exact ih0 _ _ _ _
   | exact tollref03_Is.mono _ _
   | exact tollref03_May.mono _ _ _
   | exact LeO.none _
   | refine LeO.ite ?_ ?_
   | refine LeO.bind ?_ (fun _ => ?_)
theorem tollref03_Holds.mono : ∀ a0 a1 a2 k, LeO (tollref03_Holds.f k a0 a1 a2) (tollref03_Holds.f (k + 1) a0 a1 a2) := by
 intro a0 a1 a2 k
 have ih0 := tollref03_Holds.mono_l k
 unfold tollref03_Holds.f
 repeat' first
   | (with_reducible exact ih0 _ _ _ _)
   | (with_reducible exact tollref03_Is.mono _ _)
   | (with_reducible exact tollref03_May.mono _ _ _)
   | (with_reducible exact LeO.refl _)
   | (with_reducible exact LeO.none _)
   | (with_reducible refine LeO.ite ?_ ?_)
   | (with_reducible refine LeO.bind ?_ (fun _ => ?_))
   | exact ih0 _ _ _ _
   | exact tollref03_Is.mono _ _
   | exact tollref03_May.mono _ _ _
   | exact LeO.none _
   | refine LeO.ite ?_ ?_
   | refine LeO.bind ?_ (fun _ => ?_)
set_option maxHeartbeats 8000000 in
set_option maxRecDepth 100000 in
theorem tollref03_Holds.calls (k : Nat) (a0_0 : Int) (a0_1 : ByteArray) (a1 : ByteArray) (r : Bool) (w : World) (h : tollref03_Holds.f k a0_0 a0_1 a1 = some r) :
  Calls Tryd.prog 40 #[.agg #[.int .i64 a0_0, .string a0_1], .string a1] w fun e w' => e = .returned (.bool r) ∧ Below w.heap.size w w' := by
 have hu23 := Tryd.underlying23
 have HB := am_ (Below.refl w.heap.size w)
 have H : ((tollref03_May.f k a0_0 a0_1).bind fun t207 => (if t207 = true then ((tollref03_Is.f k a1).bind fun t208 => (tollref03_Holds.j0 k a1 (!t208) a0_0 a0_1)) else (tollref03_Holds.j0 k a1 true a0_0 a0_1))) = some r := h
 clear h
 have HC3 := Aside0.mk H
 clear H
 go_enter Tryd.func40, Tryd.ntmps40
 go_upto_region 1 with (first | ((with_reducible refine gate_dst (N := 2) rfl ?_); (try (refine gate_guard (by rfl) ?_; dsimp only)); refine box_event ?hg (N := 2) ?hd (cs := #[.int .i64 a0_0, .string a0_1]) (t := 23) ?hr ?_; (case hd => rfl); (case hg => rfl); (case hr => first | (go_simp; done) | (go_simp; rfl)); intro gb206 hg w4 hbox hb; have n0_ := am_ (below_step (bel_ HB.out) hb); have n1_ := am_ (hbox); have n2_ := am_ ((by rw [hg]; exact (below_size (bel_ HB.out)) : w.heap.size ≤ gb206)); have n3_ := am_ ((by rw [hg]; exact (below_size (bel_ HB.out)) : w.heap.size ≤ gb206)); clear HB; have HB := n0_; have BK206 := n1_; have GW206 := n2_; have GE206 := n3_; clear n0_ n1_ n2_ n3_ hb hbox hg))
 repeat (go_quiet (first | ((with_reducible refine gate_dst (N := 2) rfl ?_); (try (refine gate_guard (by rfl) ?_; dsimp only)); refine box_event ?hg (N := 2) ?hd (cs := #[.int .i64 a0_0, .string a0_1]) (t := 23) ?hr ?_; (case hd => rfl); (case hg => rfl); (case hr => first | (go_simp; done) | (go_simp; rfl)); intro gb206 hg w4 hbox hb; have n0_ := am_ (below_step (bel_ HB.out) hb); have n1_ := am_ (hbox); have n2_ := am_ ((by rw [hg]; exact (below_size (bel_ HB.out)) : w.heap.size ≤ gb206)); have n3_ := am_ ((by rw [hg]; exact (below_size (bel_ HB.out)) : w.heap.size ≤ gb206)); clear HB; have HB := n0_; have BK206 := n1_; have GW206 := n2_; have GE206 := n3_; clear n0_ n1_ n2_ n3_ hb hbox hg)); go_upto_region 1 with (first | ((with_reducible refine gate_dst (N := 2) rfl ?_); (try (refine gate_guard (by rfl) ?_; dsimp only)); refine box_event ?hg (N := 2) ?hd (cs := #[.int .i64 a0_0, .string a0_1]) (t := 23) ?hr ?_; (case hd => rfl); (case hg => rfl); (case hr => first | (go_simp; done) | (go_simp; rfl)); intro gb206 hg w4 hbox hb; have n0_ := am_ (below_step (bel_ HB.out) hb); have n1_ := am_ (hbox); have n2_ := am_ ((by rw [hg]; exact (below_size (bel_ HB.out)) : w.heap.size ≤ gb206)); have n3_ := am_ ((by rw [hg]; exact (below_size (bel_ HB.out)) : w.heap.size ≤ gb206)); clear HB; have HB := n0_; have BK206 := n1_; have GW206 := n2_; have GE206 := n3_; clear n0_ n1_ n2_ n3_ hb hbox hg)))
 (try simp only [Act.put, List.setIfInBounds_toArray, List.set_cons_zero, List.set_cons_succ])
 go_cut [13] (fun v13 wc => ∃ (kq : Nat) (x13_2 : Bool), v13 = .bool x13_2 ∧ Aside0 (tollref03_Holds.j0 kq a1 x13_2 a0_0 a0_1 = some r) ∧ Aside0 (kq ≤ k) ∧ Aside0 (wc.heap[gb206]? = some (.cells #[.int .i64 a0_0, .string a0_1] 23 (0, 0))) ∧ Aside0 (Below w.heap.size w wc))
 case first =>
  have H := HC3.out
  clear HC3
  replace H := Option.bind_eq_some_iff.mp H
  obtain ⟨t207, A50, H⟩ := H
  replace H : (if t207 = true then ((tollref03_Is.f k a1).bind fun t208 => (tollref03_Holds.j0 k a1 (!t208) a0_0 a0_1)) else (tollref03_Holds.j0 k a1 true a0_0 a0_1)) = some r := H
  have A5 := Aside0.mk A50
  clear A50
  by_cases c6 : t207 = true
  ·subst c6
   have H1 : ((tollref03_Is.f k a1).bind fun t208 => (tollref03_Holds.j0 k a1 (!t208) a0_0 a0_1)) = some r := by rw [if_pos rfl] at H; exact H
   clear H
   have H := H1
   clear H1
   replace H := Option.bind_eq_some_iff.mp H
   obtain ⟨t208, A70, H⟩ := H
   replace H : (tollref03_Holds.j0 k a1 (!t208) a0_0 a0_1) = some r := H
   have A7 := Aside0.mk A70
   clear A70
   have H' := Aside0.mk H
   clear H
   have hcz8_0 : w4.cell? ⟨gb206, 0, none⟩ = some (.int .i64 a0_0) := (blk_cell BK206.out 0).trans rfl
   have hcz8_1 : w4.cell? ⟨gb206, 1, none⟩ = some (.string a0_1) := (blk_cell BK206.out 1).trans rfl
   have hfz8_0 := blk_frozen BK206.out 0
   have hfz8_1 := blk_frozen BK206.out 1
   go_wp2_with (first | (go_at_call 33; (with_reducible refine (tollref03_May.calls k a0_0 a0_1 true _ A5.out).mono ?_); rintro e w9 ⟨rfl, hb⟩; have n0_ := am_ (blk_below (g := gb206) (o := .cells #[.int .i64 a0_0, .string a0_1] 23 (0, 0)) (blk_ BK206.out) hb); have n1_ := am_ (below_step (bel_ HB.out) hb); clear BK206 HB; have BK206 := n0_; have HB := n1_; clear n0_ n1_; (try clear hb); (try clear hb2); (try clear hk); (try clear hi)) | (go_at_call 54; (with_reducible refine (tollref03_Is.calls k a1 t208 _ A7.out).mono ?_); rintro e w' ⟨rfl, ⟨nd, rfl⟩⟩; (try first | exact ⟨rfl, _, World.drewN_drewN _ _ _⟩ | exact ⟨rfl, _, Eq.trans (World.drewN_drewN _ _ _) (congrArg (World.drewN _) (Nat.add_assoc _ _ _))⟩)))
   repeat (go_quiet (first | (go_at_call 33; (with_reducible refine (tollref03_May.calls k a0_0 a0_1 true _ A5.out).mono ?_); rintro e w9 ⟨rfl, hb⟩; have n0_ := am_ (blk_below (g := gb206) (o := .cells #[.int .i64 a0_0, .string a0_1] 23 (0, 0)) (blk_ BK206.out) hb); have n1_ := am_ (below_step (bel_ HB.out) hb); clear BK206 HB; have BK206 := n0_; have HB := n1_; clear n0_ n1_; (try clear hb); (try clear hb2); (try clear hk); (try clear hi)) | (go_at_call 54; (with_reducible refine (tollref03_Is.calls k a1 t208 _ A7.out).mono ?_); rintro e w' ⟨rfl, ⟨nd, rfl⟩⟩; (try first | exact ⟨rfl, _, World.drewN_drewN _ _ _⟩ | exact ⟨rfl, _, Eq.trans (World.drewN_drewN _ _ _) (congrArg (World.drewN _) (Nat.add_assoc _ _ _))⟩))); try go_wp2_with (first | (go_at_call 33; (with_reducible refine (tollref03_May.calls k a0_0 a0_1 true _ A5.out).mono ?_); rintro e w9 ⟨rfl, hb⟩; have n0_ := am_ (blk_below (g := gb206) (o := .cells #[.int .i64 a0_0, .string a0_1] 23 (0, 0)) (blk_ BK206.out) hb); have n1_ := am_ (below_step (bel_ HB.out) hb); clear BK206 HB; have BK206 := n0_; have HB := n1_; clear n0_ n1_; (try clear hb); (try clear hb2); (try clear hk); (try clear hi)) | (go_at_call 54; (with_reducible refine (tollref03_Is.calls k a1 t208 _ A7.out).mono ?_); rintro e w' ⟨rfl, ⟨nd, rfl⟩⟩; (try first | exact ⟨rfl, _, World.drewN_drewN _ _ _⟩ | exact ⟨rfl, _, Eq.trans (World.drewN_drewN _ _ _) (congrArg (World.drewN _) (Nat.add_assoc _ _ _))⟩))))
   go_meet
   case rel => exact ⟨_, (!t208), sd_, H', ⟨by first | omega | exact Nat.le_refl _⟩, ⟨by (with_reducible repeat (first | refine blk_drewN ?_ _ | refine blk_drew ?_ | refine blk_alloc ?_ _)); exact BK206.out⟩, ⟨bel_ HB.out⟩⟩
  ·replace c6 := Bool.eq_false_iff.mpr c6
   subst c6
   have H1 : (tollref03_Holds.j0 k a1 true a0_0 a0_1) = some r := by rw [if_neg (show ¬ (false = true) by decide)] at H; exact H
   clear H
   have H := H1
   clear H1
   have H' := Aside0.mk H
   clear H
   have hcz10_0 : w4.cell? ⟨gb206, 0, none⟩ = some (.int .i64 a0_0) := (blk_cell BK206.out 0).trans rfl
   have hcz10_1 : w4.cell? ⟨gb206, 1, none⟩ = some (.string a0_1) := (blk_cell BK206.out 1).trans rfl
   have hfz10_0 := blk_frozen BK206.out 0
   have hfz10_1 := blk_frozen BK206.out 1
   go_wp2_with (first | (go_at_call 33; (with_reducible refine (tollref03_May.calls k a0_0 a0_1 false _ A5.out).mono ?_); rintro e w11 ⟨rfl, hb⟩; have n0_ := am_ (blk_below (g := gb206) (o := .cells #[.int .i64 a0_0, .string a0_1] 23 (0, 0)) (blk_ BK206.out) hb); have n1_ := am_ (below_step (bel_ HB.out) hb); clear BK206 HB; have BK206 := n0_; have HB := n1_; clear n0_ n1_; (try clear hb); (try clear hb2); (try clear hk); (try clear hi)))
   repeat (go_quiet (first | (go_at_call 33; (with_reducible refine (tollref03_May.calls k a0_0 a0_1 false _ A5.out).mono ?_); rintro e w11 ⟨rfl, hb⟩; have n0_ := am_ (blk_below (g := gb206) (o := .cells #[.int .i64 a0_0, .string a0_1] 23 (0, 0)) (blk_ BK206.out) hb); have n1_ := am_ (below_step (bel_ HB.out) hb); clear BK206 HB; have BK206 := n0_; have HB := n1_; clear n0_ n1_; (try clear hb); (try clear hb2); (try clear hk); (try clear hi))); try go_wp2_with (first | (go_at_call 33; (with_reducible refine (tollref03_May.calls k a0_0 a0_1 false _ A5.out).mono ?_); rintro e w11 ⟨rfl, hb⟩; have n0_ := am_ (blk_below (g := gb206) (o := .cells #[.int .i64 a0_0, .string a0_1] 23 (0, 0)) (blk_ BK206.out) hb); have n1_ := am_ (below_step (bel_ HB.out) hb); clear BK206 HB; have BK206 := n0_; have HB := n1_; clear n0_ n1_; (try clear hb); (try clear hb2); (try clear hk); (try clear hi))))
   go_meet
   case rel => exact ⟨_, (true), sd_, H', ⟨by first | omega | exact Nat.le_refl _⟩, ⟨by (with_reducible repeat (first | refine blk_drewN ?_ _ | refine blk_drew ?_ | refine blk_alloc ?_ _)); exact BK206.out⟩, ⟨bel_ HB.out⟩⟩
 case rest =>
  clear HC3
  try clear p2
  try clear c4
  try clear c6
  try clear hcz10_0
  try clear hcz10_1
  try clear hcz8_0
  try clear hcz8_1
  try clear hfz10_0
  try clear hfz10_1
  try clear hfz8_0
  try clear hfz8_1
  obtain ⟨kq, x13_2, rfl, HA, HJ2, BK206, HB⟩ := hcut
  cases kq with
  | zero => exact absurd HA.out (by simp [tollref03_Holds.j0])
  | succ kj2 =>
   have H := HA.out
   clear HA
   simp only [tollref03_Holds.j0] at H
   by_cases c12 : x13_2 = true
   ·subst c12
    have H1 : (some false) = some r := by rw [if_pos rfl] at H; exact H
    clear H
    have H := H1
    clear H1
    obtain rfl := Option.some.inj H
    go_wp2
    repeat (go_quiet (fail); try go_wp2)
    go_ret
    exact ⟨fi_, bel_ HB.out⟩
   ·replace c12 := Bool.eq_false_iff.mpr c12
    subst c12
    have H1 : (if a0_0 = 1 then (some (a0_1.toList == a1.toList)) else (if a0_1.toList = a1.toList then (some (a0_1.toList == a1.toList)) else (if (a0_1.size : Int) = 1 then (some true) else (if (a1.size : Int) > (a0_1.size : Int) then (if 0 ≤ (a0_1.size : Int) then (if (a0_1.size : Int) ≤ (a1.size : Int) then (if (a1.extract 0 a0_1.size).toList = a0_1.toList then (if (a0_1.size : Int) < (a1.size : Int) then (some ((bt a1 (a0_1.size : Int)) == 47)) else (none)) else (some false)) else (none)) else (none)) else (some false))))) = some r := by rw [if_neg (show ¬ (false = true) by decide)] at H; exact H
    clear H
    have H := H1
    clear H1
    by_cases c13 : a0_0 = 1
    ·rw [if_pos c13] at H
     have c13b0 : (a0_0 == 1) = true := beq_iff_eq.mpr c13
     have c13b1 : (a0_0 != 1) = false := bne_eq_false_iff_eq.mpr c13
     clear c13
     obtain rfl := Option.some.inj H
     have hcz14_0 : wc.cell? ⟨gb206, 0, none⟩ = some (.int .i64 a0_0) := (blk_cell BK206.out 0).trans rfl
     have hcz14_1 : wc.cell? ⟨gb206, 1, none⟩ = some (.string a0_1) := (blk_cell BK206.out 1).trans rfl
     have hfz14_0 := blk_frozen BK206.out 0
     have hfz14_1 := blk_frozen BK206.out 1
     go_wp2
     repeat (go_quiet (fail); try go_wp2)
     go_ret
     exact ⟨fi_, bel_ HB.out⟩
    ·rw [if_neg c13] at H
     have c13b0 : (a0_0 == 1) = false := beq_eq_false_iff_ne.mpr c13
     have c13b1 : (a0_0 != 1) = true := bne_iff_ne.mpr c13
     by_cases c15 : a0_1.toList = a1.toList
     ·rw [if_pos c15] at H
      have c15b0 : (a0_1.toList == a1.toList) = true := beq_iff_eq.mpr c15
      have c15b1 : (a0_1.toList != a1.toList) = false := bne_eq_false_iff_eq.mpr c15
      clear c15
      obtain rfl := Option.some.inj H
      have hcz16_0 : wc.cell? ⟨gb206, 0, none⟩ = some (.int .i64 a0_0) := (blk_cell BK206.out 0).trans rfl
      have hcz16_1 : wc.cell? ⟨gb206, 1, none⟩ = some (.string a0_1) := (blk_cell BK206.out 1).trans rfl
      have hfz16_0 := blk_frozen BK206.out 0
      have hfz16_1 := blk_frozen BK206.out 1
      go_wp2
      repeat (go_quiet (fail); try go_wp2)
      go_ret
      exact ⟨fi_, bel_ HB.out⟩
     ·rw [if_neg c15] at H
      have c15b0 : (a0_1.toList == a1.toList) = false := beq_eq_false_iff_ne.mpr c15
      have c15b1 : (a0_1.toList != a1.toList) = true := bne_iff_ne.mpr c15
      by_cases c17 : (a0_1.size : Int) = 1
      ·rw [if_pos c17] at H
       have c17b0 : ((a0_1.size : Int) == 1) = true := beq_iff_eq.mpr c17
       have c17b1 : ((a0_1.size : Int) != 1) = false := bne_eq_false_iff_eq.mpr c17
       clear c17
       obtain rfl := Option.some.inj H
       have hcz18_0 : wc.cell? ⟨gb206, 0, none⟩ = some (.int .i64 a0_0) := (blk_cell BK206.out 0).trans rfl
       have hcz18_1 : wc.cell? ⟨gb206, 1, none⟩ = some (.string a0_1) := (blk_cell BK206.out 1).trans rfl
       have hfz18_0 := blk_frozen BK206.out 0
       have hfz18_1 := blk_frozen BK206.out 1
       go_wp2
       repeat (go_quiet (fail); try go_wp2)
       go_ret
       exact ⟨fi_, bel_ HB.out⟩
      ·rw [if_neg c17] at H
       have c17b0 : ((a0_1.size : Int) == 1) = false := beq_eq_false_iff_ne.mpr c17
       have c17b1 : ((a0_1.size : Int) != 1) = true := bne_iff_ne.mpr c17
       by_cases c19 : (a1.size : Int) > (a0_1.size : Int)
       ·rw [if_pos c19] at H
        have c19b0 : decide ((a0_1.size : Int) < (a1.size : Int)) = true := decide_eq_true c19
        have c19b1 : decide (a0_1.size < a1.size) = true := decide_eq_true (Int.ofNat_lt.mp c19)
        clear c19
        by_cases c20 : 0 ≤ (a0_1.size : Int)
        ·rw [if_pos c20] at H
         have c20b0 := eq_true c20
         have c20b1 : decide (0 ≤ (a0_1.size : Int)) = true := decide_eq_true c20
         clear c20
         by_cases c21 : (a0_1.size : Int) ≤ (a1.size : Int)
         ·rw [if_pos c21] at H
          have c21b0 := eq_true c21
          have c21b1 : decide ((a0_1.size : Int) ≤ (a1.size : Int)) = true := decide_eq_true c21
          clear c21
          by_cases c22 : (a1.extract 0 a0_1.size).toList = a0_1.toList
          ·rw [if_pos c22] at H
           have c22b0 : ((a1.extract 0 a0_1.size).toList == a0_1.toList) = true := beq_iff_eq.mpr c22
           have c22b1 : ((a1.extract 0 a0_1.size).toList != a0_1.toList) = false := bne_eq_false_iff_eq.mpr c22
           clear c22
           by_cases c23 : (a0_1.size : Int) < (a1.size : Int)
           ·rw [if_pos c23] at H
            have c23b0 : decide ((a0_1.size : Int) < (a1.size : Int)) = true := decide_eq_true c23
            have c23b1 : decide (a0_1.size < a1.size) = true := decide_eq_true (Int.ofNat_lt.mp c23)
            clear c23
            obtain rfl := Option.some.inj H
            have hcz25_0 : wc.cell? ⟨gb206, 0, none⟩ = some (.int .i64 a0_0) := (blk_cell BK206.out 0).trans rfl
            have hcz25_1 : wc.cell? ⟨gb206, 1, none⟩ = some (.string a0_1) := (blk_cell BK206.out 1).trans rfl
            have hfz25_0 := blk_frozen BK206.out 0
            have hfz25_1 := blk_frozen BK206.out 1
            have p24 : 0 ≤ ((a0_1.size : Int) : Int) := of_decide_eq_true as_
            have q24 : (a0_1.size : Int) < (a1.size : Int) := of_decide_eq_true as_
            have hx24 := bt_at a1 (a0_1.size : Int)
            have hxn24 := bt_nat a1 a0_1.size
            replace p24 := eq_true p24
            replace q24 := eq_true q24
            go_wp2
            repeat (go_quiet (fail); try go_wp2)
            go_ret
            exact ⟨fi_, bel_ HB.out⟩
           ·rw [if_neg c23] at H
            exact absurd H (by simp)
          ·rw [if_neg c22] at H
           have c22b0 : ((a1.extract 0 a0_1.size).toList == a0_1.toList) = false := beq_eq_false_iff_ne.mpr c22
           have c22b1 : ((a1.extract 0 a0_1.size).toList != a0_1.toList) = true := bne_iff_ne.mpr c22
           obtain rfl := Option.some.inj H
           have hcz26_0 : wc.cell? ⟨gb206, 0, none⟩ = some (.int .i64 a0_0) := (blk_cell BK206.out 0).trans rfl
           have hcz26_1 : wc.cell? ⟨gb206, 1, none⟩ = some (.string a0_1) := (blk_cell BK206.out 1).trans rfl
           have hfz26_0 := blk_frozen BK206.out 0
           have hfz26_1 := blk_frozen BK206.out 1
           go_wp2
           repeat (go_quiet (fail); try go_wp2)
           go_ret
           exact ⟨fi_, bel_ HB.out⟩
         ·rw [if_neg c21] at H
          exact absurd H (by simp)
        ·rw [if_neg c20] at H
         exact absurd H (by simp)
       ·rw [if_neg c19] at H
        have c19b0 : decide ((a0_1.size : Int) < (a1.size : Int)) = false := decide_eq_false c19
        have c19b1 : decide (a0_1.size < a1.size) = false := decide_eq_false (fun h => c19 (Int.ofNat_lt.mpr h))
        clear c19
        obtain rfl := Option.some.inj H
        have hcz27_0 : wc.cell? ⟨gb206, 0, none⟩ = some (.int .i64 a0_0) := (blk_cell BK206.out 0).trans rfl
        have hcz27_1 : wc.cell? ⟨gb206, 1, none⟩ = some (.string a0_1) := (blk_cell BK206.out 1).trans rfl
        have hfz27_0 := blk_frozen BK206.out 0
        have hfz27_1 := blk_frozen BK206.out 1
        go_wp2
        repeat (go_quiet (fail); try go_wp2)
        go_ret
        exact ⟨fi_, bel_ HB.out⟩

end Go.Proofs.YtompldnifiieaaaDoor.P
