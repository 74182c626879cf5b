-- written by wip/tool/hprint.py of this repo: the kit's print, with contracts by hand joined; Lean checks it.
import Derived.Test.YtompldnifiieaaaDoorPx0
import Derived.Test.YtompldnifiieaaaDoorPx1
import Derived.Test.YtompldnifiieaaaDoorPx5
import Derived.Test.YtompldnifiieaaaDoorPx7
namespace Go.Proofs.YtompldnifiieaaaDoor.P
open Go.RowKit Go.Proofs.YtompldnifiieaaaDoorW.PrintWords Go.Proofs.YtompldnifiieaaaDoorW.PrintLast Go.Proofs.YtompldnifiieaaaDoorW.PrintMore
attribute [local go_sem] max2_int min2_int max_two min_two max_three min_three max_four min_four   -- for this text's walks alone
set_option linter.unusedVariables false
set_option linter.unusedSimpArgs false

/-! ### tolllaw06_RuleRanks_g2: function 4 -/
noncomputable def tolllaw06_RuleRanks_g2.f (k : Nat) (a0_0 : Int) (a0_1 : ByteArray) (a0_2 : ByteArray) (l0_3 : List (S49)) (l0_4 : List (S49)) (a1_0 : Int) (a1_1 : ByteArray) (a1_2 : ByteArray) (l1_3 : List (S49)) (l1_4 : List (S49)) (a2_0 : Int) (a2_1 : ByteArray) (a2_2 : ByteArray) (l2_3 : List (S49)) (l2_4 : List (S49)) : Option (Bool) := (tolllaw06_Few.f k a0_0 a0_1 a0_2 l0_3 l0_4).bind fun bt771 => ((tolllaw06_Few.f k a1_0 a1_1 a1_2 l1_3 l1_4).bind fun bt780 => ((tolllaw06_Few.f k a2_0 a2_1 a2_2 l2_3 l2_4).bind fun bt789 => ((rule_Order.f bt771.1 bt771.2.1 bt771.2.2.1 bt771.2.2.2.1 bt771.2.2.2.2 bt780.1 bt780.2.1 bt780.2.2.1 bt780.2.2.2.1 bt780.2.2.2.2).bind fun t798 => ((rule_Order.f bt780.1 bt780.2.1 bt780.2.2.1 bt780.2.2.2.1 bt780.2.2.2.2 bt789.1 bt789.2.1 bt789.2.2.1 bt789.2.2.2.1 bt789.2.2.2.2).bind fun t799 => ((rule_Order.f bt771.1 bt771.2.1 bt771.2.2.1 bt771.2.2.2.1 bt771.2.2.2.2 bt789.1 bt789.2.1 bt789.2.2.1 bt789.2.2.2.1 bt789.2.2.2.2).bind fun t800 => ((rule_Order.f bt780.1 bt780.2.1 bt780.2.2.1 bt780.2.2.2.1 bt780.2.2.2.2 bt771.1 bt771.2.1 bt771.2.2.1 bt771.2.2.2.1 bt771.2.2.2.2).bind fun t801 => (if t801 = (wrap64 (-t798)) then ((rule_Order.f bt771.1 bt771.2.1 bt771.2.2.1 bt771.2.2.2.1 bt771.2.2.2.2 bt771.1 bt771.2.1 bt771.2.2.1 bt771.2.2.2.1 bt771.2.2.2.2).bind fun t802 => (if t802 = 0 then (if t798 ≤ 0 then (if t799 ≤ 0 then (if t800 > 0 then (none) else (if t798 < 0 then (none) else (if t798 = 0 then (if t799 = 0 then (none) else ((tolllaw06_awake.f).bind fun t807 => (some t807))) else (none)))) else (none)) else (none)) else (none))) else (none))))))))
theorem tolllaw06_RuleRanks_g2.mono : ∀ a0 a1 a2 a3 a4 a5 a6 a7 a8 a9 a10 a11 a12 a13 a14 k, LeO (tolllaw06_RuleRanks_g2.f k a0 a1 a2 a3 a4 a5 a6 a7 a8 a9 a10 a11 a12 a13 a14) (tolllaw06_RuleRanks_g2.f (k + 1) a0 a1 a2 a3 a4 a5 a6 a7 a8 a9 a10 a11 a12 a13 a14) := by
 intro a0 a1 a2 a3 a4 a5 a6 a7 a8 a9 a10 a11 a12 a13 a14 k
 unfold tolllaw06_RuleRanks_g2.f
 repeat' first
   | (with_reducible exact tolllaw06_Few.mono _ _ _ _ _ _)
   | (with_reducible exact LeO.refl _)
   | (with_reducible exact LeO.none _)
   | (with_reducible refine LeO.ite ?_ ?_)
   | (with_reducible refine LeO.bind ?_ (fun _ => ?_))
   | exact tolllaw06_Few.mono _ _ _ _ _ _
   | exact LeO.none _
   | refine LeO.ite ?_ ?_
   | refine LeO.bind ?_ (fun _ => ?_)
noncomputable def tolllaw06_RuleRanks_g2.T1 : Bool × List (List Nat × List Nat) := (true, [([], []), ([0], [0]), ([], []), ([2, 1], [2]), ([], []), ([4, 3], [4]), ([1, 5, 0, 1], [1]), ([3, 6, 0, 1, 2, 3, 6], [3]), ([5, 7, 0, 1, 2, 3, 4, 5, 6, 7], [5])])
noncomputable def tolllaw06_RuleRanks_g2.B1 : List Nat := [0, 1, 0, 7, 0, 31, 63, 127, 255]
theorem tolllaw06_RuleRanks_g2.tab1 : rtab .any (opsOf Tryd.f4 1) = tolllaw06_RuleRanks_g2.T1 := by kernel_rfl
theorem tolllaw06_RuleRanks_g2.bits1 : waitsOk tolllaw06_RuleRanks_g2.T1.2 tolllaw06_RuleRanks_g2.B1 = true := by kernel_rfl
noncomputable def tolllaw06_RuleRanks_g2.T2 : Bool × List (List Nat × List Nat) := (true, [([], []), ([], []), ([0, 1], [0, 1]), ([], []), ([], []), ([3, 4, 2], [3, 4]), ([], []), ([], []), ([6, 7, 5], [6, 7]), ([2, 8, 0, 1, 2], [2]), ([5, 9, 0, 1, 2, 3, 4, 5, 9], [5]), ([8, 10, 0, 1, 2, 3, 4, 5, 6, 7, 8, 9, 10], [8])])
noncomputable def tolllaw06_RuleRanks_g2.B2 : List Nat := [0, 0, 3, 0, 0, 31, 0, 0, 255, 511, 1023, 2047]
theorem tolllaw06_RuleRanks_g2.tab2 : rtab .any (opsOf Tryd.f4 2) = tolllaw06_RuleRanks_g2.T2 := by kernel_rfl
theorem tolllaw06_RuleRanks_g2.bits2 : waitsOk tolllaw06_RuleRanks_g2.T2.2 tolllaw06_RuleRanks_g2.B2 = true := by kernel_rfl
set_option maxHeartbeats 8000000 in
set_option maxRecDepth 100000 in
theorem tolllaw06_RuleRanks_g2.calls (k : Nat) (a0_0 : Int) (a0_1 : ByteArray) (a0_2 : ByteArray) (A0_3 : Option Addr) (c0_3 : Nat) (l0_3 : List (S49)) (A0_4 : Option Addr) (c0_4 : Nat) (l0_4 : List (S49)) (a1_0 : Int) (a1_1 : ByteArray) (a1_2 : ByteArray) (A1_3 : Option Addr) (c1_3 : Nat) (l1_3 : List (S49)) (A1_4 : Option Addr) (c1_4 : Nat) (l1_4 : List (S49)) (a2_0 : Int) (a2_1 : ByteArray) (a2_2 : ByteArray) (A2_3 : Option Addr) (c2_3 : Nat) (l2_3 : List (S49)) (A2_4 : Option Addr) (c2_4 : Nat) (l2_4 : List (S49)) (r : Bool) (w : World) (hr0_3 : Kd.C k49 w A0_3 l0_3.length l0_3) (hc0_3 : l0_3.length ≤ c0_3) (hr0_4 : Kd.C k49 w A0_4 l0_4.length l0_4) (hc0_4 : l0_4.length ≤ c0_4) (hr1_3 : Kd.C k49 w A1_3 l1_3.length l1_3) (hc1_3 : l1_3.length ≤ c1_3) (hr1_4 : Kd.C k49 w A1_4 l1_4.length l1_4) (hc1_4 : l1_4.length ≤ c1_4) (hr2_3 : Kd.C k49 w A2_3 l2_3.length l2_3) (hc2_3 : l2_3.length ≤ c2_3) (hr2_4 : Kd.C k49 w A2_4 l2_4.length l2_4) (hc2_4 : l2_4.length ≤ c2_4) (h : tolllaw06_RuleRanks_g2.f k a0_0 a0_1 a0_2 l0_3 l0_4 a1_0 a1_1 a1_2 l1_3 l1_4 a2_0 a2_1 a2_2 l2_3 l2_4 = some r) :
  Calls Tryd.prog 4 #[.agg #[.int .i64 a0_0, .string a0_1, .string a0_2, .slice A0_3 l0_3.length c0_3, .slice A0_4 l0_4.length c0_4], .agg #[.int .i64 a1_0, .string a1_1, .string a1_2, .slice A1_3 l1_3.length c1_3, .slice A1_4 l1_4.length c1_4], .agg #[.int .i64 a2_0, .string a2_1, .string a2_2, .slice A2_3 l2_3.length c2_3, .slice A2_4 l2_4.length c2_4]] w fun e w' => e = .returned (.bool r) ∧ Below w.heap.size w w' := by
 have hu26 := Tryd.underlying26
 have HR0_3 := Aside0.mk hr0_3
 have HC0_3 := Aside0.mk hc0_3
 clear hr0_3 hc0_3
 have HR0_4 := Aside0.mk hr0_4
 have HC0_4 := Aside0.mk hc0_4
 clear hr0_4 hc0_4
 have HR1_3 := Aside0.mk hr1_3
 have HC1_3 := Aside0.mk hc1_3
 clear hr1_3 hc1_3
 have HR1_4 := Aside0.mk hr1_4
 have HC1_4 := Aside0.mk hc1_4
 clear hr1_4 hc1_4
 have HR2_3 := Aside0.mk hr2_3
 have HC2_3 := Aside0.mk hc2_3
 clear hr2_3 hc2_3
 have HR2_4 := Aside0.mk hr2_4
 have HC2_4 := Aside0.mk hc2_4
 clear hr2_4 hc2_4
 have HB := am_ (Below.refl w.heap.size w)
 have H : ((tolllaw06_Few.f k a0_0 a0_1 a0_2 l0_3 l0_4).bind fun bt771 => ((tolllaw06_Few.f k a1_0 a1_1 a1_2 l1_3 l1_4).bind fun bt780 => ((tolllaw06_Few.f k a2_0 a2_1 a2_2 l2_3 l2_4).bind fun bt789 => ((rule_Order.f bt771.1 bt771.2.1 bt771.2.2.1 bt771.2.2.2.1 bt771.2.2.2.2 bt780.1 bt780.2.1 bt780.2.2.1 bt780.2.2.2.1 bt780.2.2.2.2).bind fun t798 => ((rule_Order.f bt780.1 bt780.2.1 bt780.2.2.1 bt780.2.2.2.1 bt780.2.2.2.2 bt789.1 bt789.2.1 bt789.2.2.1 bt789.2.2.2.1 bt789.2.2.2.2).bind fun t799 => ((rule_Order.f bt771.1 bt771.2.1 bt771.2.2.1 bt771.2.2.2.1 bt771.2.2.2.2 bt789.1 bt789.2.1 bt789.2.2.1 bt789.2.2.2.1 bt789.2.2.2.2).bind fun t800 => ((rule_Order.f bt780.1 bt780.2.1 bt780.2.2.1 bt780.2.2.2.1 bt780.2.2.2.2 bt771.1 bt771.2.1 bt771.2.2.1 bt771.2.2.2.1 bt771.2.2.2.2).bind fun t801 => (if t801 = (wrap64 (-t798)) then ((rule_Order.f bt771.1 bt771.2.1 bt771.2.2.1 bt771.2.2.2.1 bt771.2.2.2.2 bt771.1 bt771.2.1 bt771.2.2.1 bt771.2.2.2.1 bt771.2.2.2.2).bind fun t802 => (if t802 = 0 then (if t798 ≤ 0 then (if t799 ≤ 0 then (if t800 > 0 then (none) else (if t798 < 0 then (none) else (if t798 = 0 then (if t799 = 0 then (none) else ((tolllaw06_awake.f).bind fun t807 => (some t807))) else (none)))) else (none)) else (none)) else (none))) else (none))))))))) = some r := h
 clear h
 replace H := Option.bind_eq_some_iff.mp H
 obtain ⟨⟨t771, t772, t773, t774, t777⟩, A40, H⟩ := H
 replace H : ((tolllaw06_Few.f k a1_0 a1_1 a1_2 l1_3 l1_4).bind fun bt780 => ((tolllaw06_Few.f k a2_0 a2_1 a2_2 l2_3 l2_4).bind fun bt789 => ((rule_Order.f t771 t772 t773 t774 t777 bt780.1 bt780.2.1 bt780.2.2.1 bt780.2.2.2.1 bt780.2.2.2.2).bind fun t798 => ((rule_Order.f bt780.1 bt780.2.1 bt780.2.2.1 bt780.2.2.2.1 bt780.2.2.2.2 bt789.1 bt789.2.1 bt789.2.2.1 bt789.2.2.2.1 bt789.2.2.2.2).bind fun t799 => ((rule_Order.f t771 t772 t773 t774 t777 bt789.1 bt789.2.1 bt789.2.2.1 bt789.2.2.2.1 bt789.2.2.2.2).bind fun t800 => ((rule_Order.f bt780.1 bt780.2.1 bt780.2.2.1 bt780.2.2.2.1 bt780.2.2.2.2 t771 t772 t773 t774 t777).bind fun t801 => (if t801 = (wrap64 (-t798)) then ((rule_Order.f t771 t772 t773 t774 t777 t771 t772 t773 t774 t777).bind fun t802 => (if t802 = 0 then (if t798 ≤ 0 then (if t799 ≤ 0 then (if t800 > 0 then (none) else (if t798 < 0 then (none) else (if t798 = 0 then (if t799 = 0 then (none) else ((tolllaw06_awake.f).bind fun t807 => (some t807))) else (none)))) else (none)) else (none)) else (none))) else (none)))))))) = some r := H
 have A4 := Aside0.mk A40
 clear A40
 replace H := Option.bind_eq_some_iff.mp H
 obtain ⟨⟨t780, t781, t782, t783, t786⟩, A50, H⟩ := H
 replace H : ((tolllaw06_Few.f k a2_0 a2_1 a2_2 l2_3 l2_4).bind fun bt789 => ((rule_Order.f t771 t772 t773 t774 t777 t780 t781 t782 t783 t786).bind fun t798 => ((rule_Order.f t780 t781 t782 t783 t786 bt789.1 bt789.2.1 bt789.2.2.1 bt789.2.2.2.1 bt789.2.2.2.2).bind fun t799 => ((rule_Order.f t771 t772 t773 t774 t777 bt789.1 bt789.2.1 bt789.2.2.1 bt789.2.2.2.1 bt789.2.2.2.2).bind fun t800 => ((rule_Order.f t780 t781 t782 t783 t786 t771 t772 t773 t774 t777).bind fun t801 => (if t801 = (wrap64 (-t798)) then ((rule_Order.f t771 t772 t773 t774 t777 t771 t772 t773 t774 t777).bind fun t802 => (if t802 = 0 then (if t798 ≤ 0 then (if t799 ≤ 0 then (if t800 > 0 then (none) else (if t798 < 0 then (none) else (if t798 = 0 then (if t799 = 0 then (none) else ((tolllaw06_awake.f).bind fun t807 => (some t807))) else (none)))) else (none)) else (none)) else (none))) else (none))))))) = some r := H
 have A5 := Aside0.mk A50
 clear A50
 replace H := Option.bind_eq_some_iff.mp H
 obtain ⟨⟨t789, t790, t791, t792, t795⟩, A60, H⟩ := H
 replace H : ((rule_Order.f t771 t772 t773 t774 t777 t780 t781 t782 t783 t786).bind fun t798 => ((rule_Order.f t780 t781 t782 t783 t786 t789 t790 t791 t792 t795).bind fun t799 => ((rule_Order.f t771 t772 t773 t774 t777 t789 t790 t791 t792 t795).bind fun t800 => ((rule_Order.f t780 t781 t782 t783 t786 t771 t772 t773 t774 t777).bind fun t801 => (if t801 = (wrap64 (-t798)) then ((rule_Order.f t771 t772 t773 t774 t777 t771 t772 t773 t774 t777).bind fun t802 => (if t802 = 0 then (if t798 ≤ 0 then (if t799 ≤ 0 then (if t800 > 0 then (none) else (if t798 < 0 then (none) else (if t798 = 0 then (if t799 = 0 then (none) else ((tolllaw06_awake.f).bind fun t807 => (some t807))) else (none)))) else (none)) else (none)) else (none))) else (none)))))) = some r := H
 have A6 := Aside0.mk A60
 clear A60
 replace H := Option.bind_eq_some_iff.mp H
 obtain ⟨t798, A70, H⟩ := H
 replace H : ((rule_Order.f t780 t781 t782 t783 t786 t789 t790 t791 t792 t795).bind fun t799 => ((rule_Order.f t771 t772 t773 t774 t777 t789 t790 t791 t792 t795).bind fun t800 => ((rule_Order.f t780 t781 t782 t783 t786 t771 t772 t773 t774 t777).bind fun t801 => (if t801 = (wrap64 (-t798)) then ((rule_Order.f t771 t772 t773 t774 t777 t771 t772 t773 t774 t777).bind fun t802 => (if t802 = 0 then (if t798 ≤ 0 then (if t799 ≤ 0 then (if t800 > 0 then (none) else (if t798 < 0 then (none) else (if t798 = 0 then (if t799 = 0 then (none) else ((tolllaw06_awake.f).bind fun t807 => (some t807))) else (none)))) else (none)) else (none)) else (none))) else (none))))) = some r := H
 have A7 := Aside0.mk A70
 clear A70
 replace H := Option.bind_eq_some_iff.mp H
 obtain ⟨t799, A80, H⟩ := H
 replace H : ((rule_Order.f t771 t772 t773 t774 t777 t789 t790 t791 t792 t795).bind fun t800 => ((rule_Order.f t780 t781 t782 t783 t786 t771 t772 t773 t774 t777).bind fun t801 => (if t801 = (wrap64 (-t798)) then ((rule_Order.f t771 t772 t773 t774 t777 t771 t772 t773 t774 t777).bind fun t802 => (if t802 = 0 then (if t798 ≤ 0 then (if t799 ≤ 0 then (if t800 > 0 then (none) else (if t798 < 0 then (none) else (if t798 = 0 then (if t799 = 0 then (none) else ((tolllaw06_awake.f).bind fun t807 => (some t807))) else (none)))) else (none)) else (none)) else (none))) else (none)))) = some r := H
 have A8 := Aside0.mk A80
 clear A80
 replace H := Option.bind_eq_some_iff.mp H
 obtain ⟨t800, A90, H⟩ := H
 replace H : ((rule_Order.f t780 t781 t782 t783 t786 t771 t772 t773 t774 t777).bind fun t801 => (if t801 = (wrap64 (-t798)) then ((rule_Order.f t771 t772 t773 t774 t777 t771 t772 t773 t774 t777).bind fun t802 => (if t802 = 0 then (if t798 ≤ 0 then (if t799 ≤ 0 then (if t800 > 0 then (none) else (if t798 < 0 then (none) else (if t798 = 0 then (if t799 = 0 then (none) else ((tolllaw06_awake.f).bind fun t807 => (some t807))) else (none)))) else (none)) else (none)) else (none))) else (none))) = some r := H
 have A9 := Aside0.mk A90
 clear A90
 replace H := Option.bind_eq_some_iff.mp H
 obtain ⟨t801, A100, H⟩ := H
 replace H : (if t801 = (wrap64 (-t798)) then ((rule_Order.f t771 t772 t773 t774 t777 t771 t772 t773 t774 t777).bind fun t802 => (if t802 = 0 then (if t798 ≤ 0 then (if t799 ≤ 0 then (if t800 > 0 then (none) else (if t798 < 0 then (none) else (if t798 = 0 then (if t799 = 0 then (none) else ((tolllaw06_awake.f).bind fun t807 => (some t807))) else (none)))) else (none)) else (none)) else (none))) else (none)) = some r := H
 have A10 := Aside0.mk A100
 clear A100
 by_cases c11 : t801 = (wrap64 (-t798))
 ·rw [if_pos c11] at H
  have c11b0 : (t801 == (wrap64 (-t798))) = true := beq_iff_eq.mpr c11
  have c11b1 : (t801 != (wrap64 (-t798))) = false := bne_eq_false_iff_eq.mpr c11
  clear c11
  replace H := Option.bind_eq_some_iff.mp H
  obtain ⟨t802, A120, H⟩ := H
  replace H : (if t802 = 0 then (if t798 ≤ 0 then (if t799 ≤ 0 then (if t800 > 0 then (none) else (if t798 < 0 then (none) else (if t798 = 0 then (if t799 = 0 then (none) else ((tolllaw06_awake.f).bind fun t807 => (some t807))) else (none)))) else (none)) else (none)) else (none)) = some r := H
  have A12 := Aside0.mk A120
  clear A120
  by_cases c13 : t802 = 0
  ·rw [if_pos c13] at H
   have c13b0 : (t802 == 0) = true := beq_iff_eq.mpr c13
   have c13b1 : (t802 != 0) = false := bne_eq_false_iff_eq.mpr c13
   clear c13
   by_cases c14 : t798 ≤ 0
   ·rw [if_pos c14] at H
    have c14b0 : decide (t798 ≤ 0) = true := decide_eq_true c14
    clear c14
    by_cases c15 : t799 ≤ 0
    ·rw [if_pos c15] at H
     have c15b0 : decide (t799 ≤ 0) = true := decide_eq_true c15
     clear c15
     by_cases c16 : t800 > 0
     ·rw [if_pos c16] at H
      exact absurd H (by simp)
     ·rw [if_neg c16] at H
      have c16b0 : decide (0 < t800) = false := decide_eq_false c16
      clear c16
      by_cases c17 : t798 < 0
      ·rw [if_pos c17] at H
       exact absurd H (by simp)
      ·rw [if_neg c17] at H
       have c17b0 : decide (t798 < 0) = false := decide_eq_false c17
       clear c17
       by_cases c18 : t798 = 0
       ·rw [if_pos c18] at H
        have c18b0 : (t798 == 0) = true := beq_iff_eq.mpr c18
        have c18b1 : (t798 != 0) = false := bne_eq_false_iff_eq.mpr c18
        clear c18
        by_cases c19 : t799 = 0
        ·rw [if_pos c19] at H
         exact absurd H (by simp)
        ·rw [if_neg c19] at H
         have c19b0 : (t799 == 0) = false := beq_eq_false_iff_ne.mpr c19
         have c19b1 : (t799 != 0) = true := bne_iff_ne.mpr c19
         replace H := Option.bind_eq_some_iff.mp H
         obtain ⟨t807, A200, H⟩ := H
         replace H : (some t807) = some r := H
         have A20 := Aside0.mk A200
         clear A200
         obtain rfl := Option.some.inj H
         go_enter Tryd.func4, Tryd.ntmps4
         try go_wp2_with (first | ((with_reducible refine gate_dst (N := 3) rfl ?_); refine box_event ?hg (N := 3) ?hd (cs := #[.int .i64 a0_0, .string a0_1, .string a0_2, .slice A0_3 l0_3.length c0_3, .slice A0_4 l0_4.length c0_4]) (t := 26) ?hr ?_; (case hd => rfl); (case hg => rfl); (case hr => first | (go_simp; done) | (go_simp; rfl)); intro gb768 hg w21 hbox hb; have n0_ := am_ (below_step (bel_ HB.out) hb); have n1_ := am_ (hbox); have n2_ := am_ ((by rw [hg]; exact (below_size (bel_ HB.out)) : w.heap.size ≤ gb768)); have n3_ := am_ ((by rw [hg]; exact (below_size (bel_ HB.out)) : w.heap.size ≤ gb768)); clear HB; have HB := n0_; have BK768 := n1_; have GW768 := n2_; have GE768 := n3_; clear n0_ n1_ n2_ n3_ hb hbox hg) | ((with_reducible refine gate_dst (N := 4) rfl ?_); refine box_event ?hg (N := 4) ?hd (cs := #[.int .i64 a1_0, .string a1_1, .string a1_2, .slice A1_3 l1_3.length c1_3, .slice A1_4 l1_4.length c1_4]) (t := 26) ?hr ?_; (case hd => rfl); (case hg => rfl); (case hr => first | (go_simp; done) | (go_simp; rfl)); intro gb769 hg w22 hbox hb; have n0_ := am_ (blk_below (g := gb768) (o := .cells #[.int .i64 a0_0, .string a0_1, .string a0_2, .slice A0_3 l0_3.length c0_3, .slice A0_4 l0_4.length c0_4] 26 (0, 0)) (blk_ BK768.out) hb); have n1_ := am_ (below_step (bel_ HB.out) hb); have n2_ := am_ (hbox); have n3_ := am_ ((by rw [hg]; exact (below_size (bel_ HB.out)) : w.heap.size ≤ gb769)); have n4_ := am_ ((by rw [hg]; exact (below_size (bel_ HB.out)) : w.heap.size ≤ gb769)); have n5_ := am_ ((by rw [hg]; exact Nat.ne_of_lt (blk_lt (g := gb768) (o := .cells #[.int .i64 a0_0, .string a0_1, .string a0_2, .slice A0_3 l0_3.length c0_3, .slice A0_4 l0_4.length c0_4] 26 (0, 0)) (blk_ BK768.out)) : gb768 ≠ gb769)); have n6_ := am_ ((by rw [hg]; exact Nat.ne_of_gt (blk_lt (g := gb768) (o := .cells #[.int .i64 a0_0, .string a0_1, .string a0_2, .slice A0_3 l0_3.length c0_3, .slice A0_4 l0_4.length c0_4] 26 (0, 0)) (blk_ BK768.out)) : gb769 ≠ gb768)); clear BK768 HB; have BK768 := n0_; have HB := n1_; have BK769 := n2_; have GW769 := n3_; have GE769 := n4_; have NB768_769 := n5_; have NB769_768 := n6_; clear n0_ n1_ n2_ n3_ n4_ n5_ n6_ hb hbox hg) | ((with_reducible refine gate_dst (N := 5) rfl ?_); refine box_event ?hg (N := 5) ?hd (cs := #[.int .i64 a2_0, .string a2_1, .string a2_2, .slice A2_3 l2_3.length c2_3, .slice A2_4 l2_4.length c2_4]) (t := 26) ?hr ?_; (case hd => rfl); (case hg => rfl); (case hr => first | (go_simp; done) | (go_simp; rfl)); intro gb770 hg w23 hbox hb; have n0_ := am_ (blk_below (g := gb768) (o := .cells #[.int .i64 a0_0, .string a0_1, .string a0_2, .slice A0_3 l0_3.length c0_3, .slice A0_4 l0_4.length c0_4] 26 (0, 0)) (blk_ BK768.out) hb); have n1_ := am_ (blk_below (g := gb769) (o := .cells #[.int .i64 a1_0, .string a1_1, .string a1_2, .slice A1_3 l1_3.length c1_3, .slice A1_4 l1_4.length c1_4] 26 (0, 0)) (blk_ BK769.out) hb); have n2_ := am_ (below_step (bel_ HB.out) hb); have n3_ := am_ (hbox); have n4_ := am_ ((by rw [hg]; exact (below_size (bel_ HB.out)) : w.heap.size ≤ gb770)); have n5_ := am_ ((by rw [hg]; exact (below_size (bel_ HB.out)) : w.heap.size ≤ gb770)); have n6_ := am_ ((by rw [hg]; exact Nat.ne_of_lt (blk_lt (g := gb768) (o := .cells #[.int .i64 a0_0, .string a0_1, .string a0_2, .slice A0_3 l0_3.length c0_3, .slice A0_4 l0_4.length c0_4] 26 (0, 0)) (blk_ BK768.out)) : gb768 ≠ gb770)); have n7_ := am_ ((by rw [hg]; exact Nat.ne_of_gt (blk_lt (g := gb768) (o := .cells #[.int .i64 a0_0, .string a0_1, .string a0_2, .slice A0_3 l0_3.length c0_3, .slice A0_4 l0_4.length c0_4] 26 (0, 0)) (blk_ BK768.out)) : gb770 ≠ gb768)); have n8_ := am_ ((by rw [hg]; exact Nat.ne_of_lt (blk_lt (g := gb769) (o := .cells #[.int .i64 a1_0, .string a1_1, .string a1_2, .slice A1_3 l1_3.length c1_3, .slice A1_4 l1_4.length c1_4] 26 (0, 0)) (blk_ BK769.out)) : gb769 ≠ gb770)); have n9_ := am_ ((by rw [hg]; exact Nat.ne_of_gt (blk_lt (g := gb769) (o := .cells #[.int .i64 a1_0, .string a1_1, .string a1_2, .slice A1_3 l1_3.length c1_3, .slice A1_4 l1_4.length c1_4] 26 (0, 0)) (blk_ BK769.out)) : gb770 ≠ gb769)); clear BK768 BK769 HB; have BK768 := n0_; have BK769 := n1_; have HB := n2_; have BK770 := n3_; have GW770 := n4_; have GE770 := n5_; have NB768_770 := n6_; have NB770_768 := n7_; have NB769_770 := n8_; have NB770_769 := n9_; clear n0_ n1_ n2_ n3_ n4_ n5_ n6_ n7_ n8_ n9_ hb hbox hg))
         have n0_ := am_ (blk_drew BK768.out)
         have n1_ := am_ (blk_drew BK769.out)
         have n2_ := am_ (blk_drew BK770.out)
         have n3_ := am_ (below_drew1 HB.out)
         clear BK768 BK769 BK770 HB
         have BK768 := n0_
         have BK769 := n1_
         have BK770 := n2_
         have HB := n3_
         clear n0_ n1_ n2_ n3_
         refine start_ (n := 9) (S := fun w' => w'.cell? ⟨gb768, 0, none⟩ = some (.int .i64 a0_0) ∧ w'.cell? ⟨gb768, 1, none⟩ = some (.string a0_1) ∧ w'.cell? ⟨gb768, 2, none⟩ = some (.string a0_2) ∧ w'.cell? ⟨gb768, 3, none⟩ = some (.slice A0_3 l0_3.length c0_3) ∧ w'.cell? ⟨gb768, 4, none⟩ = some (.slice A0_4 l0_4.length c0_4) ∧ w'.cell? ⟨gb769, 0, none⟩ = some (.int .i64 a1_0) ∧ w'.cell? ⟨gb769, 1, none⟩ = some (.string a1_1) ∧ w'.cell? ⟨gb769, 2, none⟩ = some (.string a1_2) ∧ w'.cell? ⟨gb769, 3, none⟩ = some (.slice A1_3 l1_3.length c1_3) ∧ w'.cell? ⟨gb769, 4, none⟩ = some (.slice A1_4 l1_4.length c1_4) ∧ w'.cell? ⟨gb770, 0, none⟩ = some (.int .i64 a2_0) ∧ w'.cell? ⟨gb770, 1, none⟩ = some (.string a2_1) ∧ w'.cell? ⟨gb770, 2, none⟩ = some (.string a2_2) ∧ w'.cell? ⟨gb770, 3, none⟩ = some (.slice A2_3 l2_3.length c2_3) ∧ w'.cell? ⟨gb770, 4, none⟩ = some (.slice A2_4 l2_4.length c2_4)) (ds := [6, 7, 8]) #[false, false, false, false, false, false, false, false, false] kr_ rfl rfl ⟨(blk_cell BK768.out 0).trans rfl, (blk_cell BK768.out 1).trans rfl, (blk_cell BK768.out 2).trans rfl, (blk_cell BK768.out 3).trans rfl, (blk_cell BK768.out 4).trans rfl, (blk_cell BK769.out 0).trans rfl, (blk_cell BK769.out 1).trans rfl, (blk_cell BK769.out 2).trans rfl, (blk_cell BK769.out 3).trans rfl, (blk_cell BK769.out 4).trans rfl, (blk_cell BK770.out 0).trans rfl, (blk_cell BK770.out 1).trans rfl, (blk_cell BK770.out 2).trans rfl, (blk_cell BK770.out 3).trans rfl, (blk_cell BK770.out 4).trans rfl⟩ (fun hHeld => ?_); refine with_tabW tolllaw06_RuleRanks_g2.tab1 tolllaw06_RuleRanks_g2.bits1 (fun HT_ HW_ => ?_)
         generalize w23.drew = w24 at BK768 BK769 BK770 HB hHeld ⊢
         refine take_ (i := 0) (N := some 10) (v := ?_) (a' := ?_) #[true, false, false, false, false, false, false, false, false] rfl rfl (take_ofW HT_.out HW_.out kr_) (fun _ _ _ h => h) (Or.inl ⟨by rfl, ?_⟩) hHeld ?_ ?_
         rotate_left
         ·rintro w' ⟨s0, s1, s2, s3, s4, s5, s6, s7, s8, s9, s10, s11, s12, s13, s14⟩
          go_simp
          with_reducible rfl
         rotate_left
         ·simp only [Act.put, sx_, s0_, s1_, i64_w, i32_w]
          rfl
         refine take_ (i := 2) (N := some 12) (v := ?_) (a' := ?_) #[true, false, true, false, false, false, false, false, false] rfl rfl (take_ofW HT_.out HW_.out kr_) (fun _ _ _ h => h) (Or.inl ⟨by rfl, ?_⟩) hHeld ?_ ?_
         rotate_left
         ·rintro w' ⟨s0, s1, s2, s3, s4, s5, s6, s7, s8, s9, s10, s11, s12, s13, s14⟩
          go_simp
          with_reducible rfl
         rotate_left
         ·simp only [Act.put, sx_, s0_, s1_, i64_w, i32_w]
          rfl
         refine take_ (i := 4) (N := some 14) (v := ?_) (a' := ?_) #[true, false, true, false, true, false, false, false, false] rfl rfl (take_ofW HT_.out HW_.out kr_) (fun _ _ _ h => h) (Or.inl ⟨by rfl, ?_⟩) hHeld ?_ ?_
         rotate_left
         ·rintro w' ⟨s0, s1, s2, s3, s4, s5, s6, s7, s8, s9, s10, s11, s12, s13, s14⟩
          go_simp
          with_reducible rfl
         rotate_left
         ·simp only [Act.put, sx_, s0_, s1_, i64_w, i32_w]
          rfl
         refine one_ (i := 1) (N := some 11) #[true, true, true, false, true, false, false, false, false] rfl rfl (one_of HT_.out kr_) (by decide) (fun K hK => ?_)
         refine goes_ Tryd.func9 kr_ rfl #[.agg #[.int .i64 a0_0, .string a0_1, .string a0_2, .slice A0_3 l0_3.length c0_3, .slice A0_4 l0_4.length c0_4]] (by rfl) rfl rfl rl_ ?_
         with_reducible refine (tolllaw06_Few.calls k a0_0 a0_1 a0_2 _ _ l0_3 _ _ l0_4 t771 t772 t773 t774 t777 _ ?side1 ?side2 ?side3 ?side4 A4.out).mono ?_
         (case side1 => exact C_ (Kd.C_below HR0_3.out HB.out))
         (case side2 => exact HC0_3.out)
         (case side3 => exact C_ (Kd.C_below HR0_4.out HB.out))
         (case side4 => exact HC0_4.out)
         rintro e w25 ⟨v775, v778, rfl, ho0, ho1, hb⟩
         refine ⟨_, rfl, ?_⟩
         have n0_ := am_ (Kd.R_lower ho0 (below_size (bel_ HB.out)))
         have n1_ := am_ (Kd.R_lower ho1 (below_size (bel_ HB.out)))
         have n2_ := am_ (blk_below (g := gb768) (o := .cells #[.int .i64 a0_0, .string a0_1, .string a0_2, .slice A0_3 l0_3.length c0_3, .slice A0_4 l0_4.length c0_4] 26 (0, 0)) (blk_ BK768.out) hb)
         have n3_ := am_ (blk_below (g := gb769) (o := .cells #[.int .i64 a1_0, .string a1_1, .string a1_2, .slice A1_3 l1_3.length c1_3, .slice A1_4 l1_4.length c1_4] 26 (0, 0)) (blk_ BK769.out) hb)
         have n4_ := am_ (blk_below (g := gb770) (o := .cells #[.int .i64 a2_0, .string a2_1, .string a2_2, .slice A2_3 l2_3.length c2_3, .slice A2_4 l2_4.length c2_4] 26 (0, 0)) (blk_ BK770.out) hb)
         have n5_ := am_ (below_step (bel_ HB.out) hb)
         clear BK768 BK769 BK770 HB
         have HO776 := n0_
         have HO779 := n1_
         have BK768 := n2_
         have BK769 := n3_
         have BK770 := n4_
         have HB := n5_
         clear n0_ n1_ n2_ n3_ n4_ n5_
         (try clear hb)
         (try clear hb2)
         (try clear hk)
         (try clear hi)
         (try clear ho0)
         (try clear ho1)
         refine hK.out _ _ ⟨(blk_cell BK768.out 0).trans rfl, (blk_cell BK768.out 1).trans rfl, (blk_cell BK768.out 2).trans rfl, (blk_cell BK768.out 3).trans rfl, (blk_cell BK768.out 4).trans rfl, (blk_cell BK769.out 0).trans rfl, (blk_cell BK769.out 1).trans rfl, (blk_cell BK769.out 2).trans rfl, (blk_cell BK769.out 3).trans rfl, (blk_cell BK769.out 4).trans rfl, (blk_cell BK770.out 0).trans rfl, (blk_cell BK770.out 1).trans rfl, (blk_cell BK770.out 2).trans rfl, (blk_cell BK770.out 3).trans rfl, (blk_cell BK770.out 4).trans rfl⟩ (fun hHeld => ?_)
         clear hK K
         refine norm_ (a' := ?_) ?_ ?_
         rotate_left
         ·show Act.put _ (some 11) _ = _
          simp only [Act.put, sx_, s0_, s1_, i64_w, i32_w]
          rfl
         refine one_ (i := 3) (N := some 13) #[true, true, true, true, true, false, false, false, false] rfl rfl (one_of HT_.out kr_) (by decide) (fun K hK => ?_)
         refine goes_ Tryd.func9 kr_ rfl #[.agg #[.int .i64 a1_0, .string a1_1, .string a1_2, .slice A1_3 l1_3.length c1_3, .slice A1_4 l1_4.length c1_4]] (by rfl) rfl rfl rl_ ?_
         with_reducible refine (tolllaw06_Few.calls k a1_0 a1_1 a1_2 _ _ l1_3 _ _ l1_4 t780 t781 t782 t783 t786 _ ?side1 ?side2 ?side3 ?side4 A5.out).mono ?_
         (case side1 => exact C_ (Kd.C_below HR1_3.out HB.out))
         (case side2 => exact HC1_3.out)
         (case side3 => exact C_ (Kd.C_below HR1_4.out HB.out))
         (case side4 => exact HC1_4.out)
         rintro e w26 ⟨v784, v787, rfl, ho0, ho1, hb⟩
         refine ⟨_, rfl, ?_⟩
         have n0_ := am_ (Kd.R_mono (Kd.R_told (Kd.R_told (Kd.R_old (R_ HO776.out) hb) (Kd.R_base ho0)) (Kd.R_base ho1)) (fun _ h_ => h_.1))
         have n1_ := am_ (Kd.R_mono (Kd.R_told (Kd.R_told (Kd.R_old (R_ HO779.out) hb) (Kd.R_base ho0)) (Kd.R_base ho1)) (fun _ h_ => h_.1))
         have n2_ := am_ (Kd.R_lower (Kd.R_new' (Kd.R_new' ho0 (Kd.R_lt (R_ HO776.out))) (Kd.R_lt (R_ HO779.out))) (below_size (bel_ HB.out)))
         have n3_ := am_ (Kd.R_lower (Kd.R_new' (Kd.R_new' ho1 (Kd.R_lt (R_ HO776.out))) (Kd.R_lt (R_ HO779.out))) (below_size (bel_ HB.out)))
         have n4_ := am_ (blk_below (g := gb768) (o := .cells #[.int .i64 a0_0, .string a0_1, .string a0_2, .slice A0_3 l0_3.length c0_3, .slice A0_4 l0_4.length c0_4] 26 (0, 0)) (blk_ BK768.out) hb)
         have n5_ := am_ (blk_below (g := gb769) (o := .cells #[.int .i64 a1_0, .string a1_1, .string a1_2, .slice A1_3 l1_3.length c1_3, .slice A1_4 l1_4.length c1_4] 26 (0, 0)) (blk_ BK769.out) hb)
         have n6_ := am_ (blk_below (g := gb770) (o := .cells #[.int .i64 a2_0, .string a2_1, .string a2_2, .slice A2_3 l2_3.length c2_3, .slice A2_4 l2_4.length c2_4] 26 (0, 0)) (blk_ BK770.out) hb)
         have n7_ := am_ (below_step (bel_ HB.out) hb)
         clear HO776 HO779 BK768 BK769 BK770 HB
         have HO776 := n0_
         have HO779 := n1_
         have HO785 := n2_
         have HO788 := n3_
         have BK768 := n4_
         have BK769 := n5_
         have BK770 := n6_
         have HB := n7_
         clear n0_ n1_ n2_ n3_ n4_ n5_ n6_ n7_
         (try clear hb)
         (try clear hb2)
         (try clear hk)
         (try clear hi)
         (try clear ho0)
         (try clear ho1)
         refine hK.out _ _ ⟨(blk_cell BK768.out 0).trans rfl, (blk_cell BK768.out 1).trans rfl, (blk_cell BK768.out 2).trans rfl, (blk_cell BK768.out 3).trans rfl, (blk_cell BK768.out 4).trans rfl, (blk_cell BK769.out 0).trans rfl, (blk_cell BK769.out 1).trans rfl, (blk_cell BK769.out 2).trans rfl, (blk_cell BK769.out 3).trans rfl, (blk_cell BK769.out 4).trans rfl, (blk_cell BK770.out 0).trans rfl, (blk_cell BK770.out 1).trans rfl, (blk_cell BK770.out 2).trans rfl, (blk_cell BK770.out 3).trans rfl, (blk_cell BK770.out 4).trans rfl⟩ (fun hHeld => ?_)
         clear hK K
         refine norm_ (a' := ?_) ?_ ?_
         rotate_left
         ·show Act.put _ (some 13) _ = _
          simp only [Act.put, sx_, s0_, s1_, i64_w, i32_w]
          rfl
         refine one_ (i := 5) (N := some 15) #[true, true, true, true, true, true, false, false, false] rfl rfl (one_of HT_.out kr_) (by decide) (fun K hK => ?_)
         refine goes_ Tryd.func9 kr_ rfl #[.agg #[.int .i64 a2_0, .string a2_1, .string a2_2, .slice A2_3 l2_3.length c2_3, .slice A2_4 l2_4.length c2_4]] (by rfl) rfl rfl rl_ ?_
         with_reducible refine (tolllaw06_Few.calls k a2_0 a2_1 a2_2 _ _ l2_3 _ _ l2_4 t789 t790 t791 t792 t795 _ ?side1 ?side2 ?side3 ?side4 A6.out).mono ?_
         (case side1 => exact C_ (Kd.C_below HR2_3.out HB.out))
         (case side2 => exact HC2_3.out)
         (case side3 => exact C_ (Kd.C_below HR2_4.out HB.out))
         (case side4 => exact HC2_4.out)
         rintro e w27 ⟨v793, v796, rfl, ho0, ho1, hb⟩
         refine ⟨_, rfl, ?_⟩
         have n0_ := am_ (Kd.R_mono (Kd.R_told (Kd.R_told (Kd.R_old (R_ HO776.out) hb) (Kd.R_base ho0)) (Kd.R_base ho1)) (fun _ h_ => h_.1))
         have n1_ := am_ (Kd.R_mono (Kd.R_told (Kd.R_told (Kd.R_old (R_ HO779.out) hb) (Kd.R_base ho0)) (Kd.R_base ho1)) (fun _ h_ => h_.1))
         have n2_ := am_ (Kd.R_mono (Kd.R_told (Kd.R_told (Kd.R_old (R_ HO785.out) hb) (Kd.R_base ho0)) (Kd.R_base ho1)) (fun _ h_ => h_.1))
         have n3_ := am_ (Kd.R_mono (Kd.R_told (Kd.R_told (Kd.R_old (R_ HO788.out) hb) (Kd.R_base ho0)) (Kd.R_base ho1)) (fun _ h_ => h_.1))
         have n4_ := am_ (Kd.R_lower (Kd.R_new' (Kd.R_new' (Kd.R_new' (Kd.R_new' ho0 (Kd.R_lt (R_ HO776.out))) (Kd.R_lt (R_ HO779.out))) (Kd.R_lt (R_ HO785.out))) (Kd.R_lt (R_ HO788.out))) (below_size (bel_ HB.out)))
         have n5_ := am_ (Kd.R_lower (Kd.R_new' (Kd.R_new' (Kd.R_new' (Kd.R_new' ho1 (Kd.R_lt (R_ HO776.out))) (Kd.R_lt (R_ HO779.out))) (Kd.R_lt (R_ HO785.out))) (Kd.R_lt (R_ HO788.out))) (below_size (bel_ HB.out)))
         have n6_ := am_ (blk_below (g := gb768) (o := .cells #[.int .i64 a0_0, .string a0_1, .string a0_2, .slice A0_3 l0_3.length c0_3, .slice A0_4 l0_4.length c0_4] 26 (0, 0)) (blk_ BK768.out) hb)
         have n7_ := am_ (blk_below (g := gb769) (o := .cells #[.int .i64 a1_0, .string a1_1, .string a1_2, .slice A1_3 l1_3.length c1_3, .slice A1_4 l1_4.length c1_4] 26 (0, 0)) (blk_ BK769.out) hb)
         have n8_ := am_ (blk_below (g := gb770) (o := .cells #[.int .i64 a2_0, .string a2_1, .string a2_2, .slice A2_3 l2_3.length c2_3, .slice A2_4 l2_4.length c2_4] 26 (0, 0)) (blk_ BK770.out) hb)
         have n9_ := am_ (below_step (bel_ HB.out) hb)
         clear HO776 HO779 HO785 HO788 BK768 BK769 BK770 HB
         have HO776 := n0_
         have HO779 := n1_
         have HO785 := n2_
         have HO788 := n3_
         have HO794 := n4_
         have HO797 := n5_
         have BK768 := n6_
         have BK769 := n7_
         have BK770 := n8_
         have HB := n9_
         clear n0_ n1_ n2_ n3_ n4_ n5_ n6_ n7_ n8_ n9_
         (try clear hb)
         (try clear hb2)
         (try clear hk)
         (try clear hi)
         (try clear ho0)
         (try clear ho1)
         obtain ⟨Ao31, co31, eo31⟩ := Kd.R_slice HO776.out
         (first | subst eo31 | (injection eo31 with f1_ f2_ f3_; have f4_ := f1_.symm; have f5_ := f3_.symm; clear f1_ f2_ f3_; subst f4_; subst f5_))
         obtain ⟨Ao33, co33, eo33⟩ := Kd.R_slice HO779.out
         (first | subst eo33 | (injection eo33 with f1_ f2_ f3_; have f4_ := f1_.symm; have f5_ := f3_.symm; clear f1_ f2_ f3_; subst f4_; subst f5_))
         obtain ⟨Ao38, co38, eo38⟩ := Kd.R_slice HO785.out
         (first | subst eo38 | (injection eo38 with f1_ f2_ f3_; have f4_ := f1_.symm; have f5_ := f3_.symm; clear f1_ f2_ f3_; subst f4_; subst f5_))
         obtain ⟨Ao40, co40, eo40⟩ := Kd.R_slice HO788.out
         (first | subst eo40 | (injection eo40 with f1_ f2_ f3_; have f4_ := f1_.symm; have f5_ := f3_.symm; clear f1_ f2_ f3_; subst f4_; subst f5_))
         obtain ⟨Ao45, co45, eo45⟩ := Kd.R_slice HO794.out
         (first | subst eo45 | (injection eo45 with f1_ f2_ f3_; have f4_ := f1_.symm; have f5_ := f3_.symm; clear f1_ f2_ f3_; subst f4_; subst f5_))
         obtain ⟨Ao47, co47, eo47⟩ := Kd.R_slice HO797.out
         (first | subst eo47 | (injection eo47 with f1_ f2_ f3_; have f4_ := f1_.symm; have f5_ := f3_.symm; clear f1_ f2_ f3_; subst f4_; subst f5_))
         refine hK.out _ _ ⟨(blk_cell BK768.out 0).trans rfl, (blk_cell BK768.out 1).trans rfl, (blk_cell BK768.out 2).trans rfl, (blk_cell BK768.out 3).trans rfl, (blk_cell BK768.out 4).trans rfl, (blk_cell BK769.out 0).trans rfl, (blk_cell BK769.out 1).trans rfl, (blk_cell BK769.out 2).trans rfl, (blk_cell BK769.out 3).trans rfl, (blk_cell BK769.out 4).trans rfl, (blk_cell BK770.out 0).trans rfl, (blk_cell BK770.out 1).trans rfl, (blk_cell BK770.out 2).trans rfl, (blk_cell BK770.out 3).trans rfl, (blk_cell BK770.out 4).trans rfl⟩ (fun hHeld => ?_)
         clear hK K
         refine norm_ (a' := ?_) ?_ ?_
         rotate_left
         ·show Act.put _ (some 15) _ = _
          simp only [Act.put, sx_, s0_, s1_, i64_w, i32_w]
          rfl
         refine last_ (i := 6) (N := none) #[true, true, true, true, true, true, true, false, false] rfl rfl (one_of HT_.out kr_) (by decide) (fun K hK => ?_)
         have hs28 : w27.cell? ⟨gb768, 0, none⟩ = some (.int .i64 a0_0) := (blk_cell BK768.out 0).trans rfl
         have hfs28 := blk_frozen BK768.out 0
         have hns28_1 := NB769_768.out
         have hns28_2 := NB770_768.out
         have hms28_1 := NB768_769.out
         have hms28_2 := NB768_770.out
         have hs29 : w27.cell? ⟨gb768, 1, none⟩ = some (.string a0_1) := (blk_cell BK768.out 1).trans rfl
         have hfs29 := blk_frozen BK768.out 1
         have hns29_1 := NB769_768.out
         have hns29_2 := NB770_768.out
         have hms29_1 := NB768_769.out
         have hms29_2 := NB768_770.out
         have hs30 : w27.cell? ⟨gb768, 2, none⟩ = some (.string a0_2) := (blk_cell BK768.out 2).trans rfl
         have hfs30 := blk_frozen BK768.out 2
         have hns30_1 := NB769_768.out
         have hns30_2 := NB770_768.out
         have hms30_1 := NB768_769.out
         have hms30_2 := NB768_770.out
         have hs32 : w27.cell? ⟨gb768, 3, none⟩ = some (.slice A0_3 l0_3.length c0_3) := (blk_cell BK768.out 3).trans rfl
         have hfs32 := blk_frozen BK768.out 3
         have hns32_1 := NB769_768.out
         have hns32_2 := NB770_768.out
         have hms32_1 := NB768_769.out
         have hms32_2 := NB768_770.out
         have hs34 : w27.cell? ⟨gb768, 4, none⟩ = some (.slice A0_4 l0_4.length c0_4) := (blk_cell BK768.out 4).trans rfl
         have hfs34 := blk_frozen BK768.out 4
         have hns34_1 := NB769_768.out
         have hns34_2 := NB770_768.out
         have hms34_1 := NB768_769.out
         have hms34_2 := NB768_770.out
         refine skip_ (w1 := ?_) ?_ ?_ ?_ ?_
         rotate_left
         ·rfl
         ·rfl
         ·go_simp
          rfl
         refine hK.out _ _ ?_
         clear hK K
         refine last_ (i := 7) (N := none) #[true, true, true, true, true, true, true, true, false] rfl rfl (one_of HT_.out kr_) (by decide) (fun K hK => ?_)
         have hs35 : w27.cell? ⟨gb769, 0, none⟩ = some (.int .i64 a1_0) := (blk_cell BK769.out 0).trans rfl
         have hfs35 := blk_frozen BK769.out 0
         have hns35_0 := NB768_769.out
         have hns35_2 := NB770_769.out
         have hms35_0 := NB769_768.out
         have hms35_2 := NB769_770.out
         have hs36 : w27.cell? ⟨gb769, 1, none⟩ = some (.string a1_1) := (blk_cell BK769.out 1).trans rfl
         have hfs36 := blk_frozen BK769.out 1
         have hns36_0 := NB768_769.out
         have hns36_2 := NB770_769.out
         have hms36_0 := NB769_768.out
         have hms36_2 := NB769_770.out
         have hs37 : w27.cell? ⟨gb769, 2, none⟩ = some (.string a1_2) := (blk_cell BK769.out 2).trans rfl
         have hfs37 := blk_frozen BK769.out 2
         have hns37_0 := NB768_769.out
         have hns37_2 := NB770_769.out
         have hms37_0 := NB769_768.out
         have hms37_2 := NB769_770.out
         have hs39 : w27.cell? ⟨gb769, 3, none⟩ = some (.slice A1_3 l1_3.length c1_3) := (blk_cell BK769.out 3).trans rfl
         have hfs39 := blk_frozen BK769.out 3
         have hns39_0 := NB768_769.out
         have hns39_2 := NB770_769.out
         have hms39_0 := NB769_768.out
         have hms39_2 := NB769_770.out
         have hs41 : w27.cell? ⟨gb769, 4, none⟩ = some (.slice A1_4 l1_4.length c1_4) := (blk_cell BK769.out 4).trans rfl
         have hfs41 := blk_frozen BK769.out 4
         have hns41_0 := NB768_769.out
         have hns41_2 := NB770_769.out
         have hms41_0 := NB769_768.out
         have hms41_2 := NB769_770.out
         refine skip_ (w1 := ?_) ?_ ?_ ?_ ?_
         rotate_left
         ·rfl
         ·rfl
         ·go_simp
          rfl
         refine hK.out _ _ ?_
         clear hK K
         refine last_ (i := 8) (N := none) #[true, true, true, true, true, true, true, true, true] rfl rfl (one_of HT_.out kr_) (by decide) (fun K hK => ?_)
         have hs42 : w27.cell? ⟨gb770, 0, none⟩ = some (.int .i64 a2_0) := (blk_cell BK770.out 0).trans rfl
         have hfs42 := blk_frozen BK770.out 0
         have hns42_0 := NB768_770.out
         have hns42_1 := NB769_770.out
         have hms42_0 := NB770_768.out
         have hms42_1 := NB770_769.out
         have hs43 : w27.cell? ⟨gb770, 1, none⟩ = some (.string a2_1) := (blk_cell BK770.out 1).trans rfl
         have hfs43 := blk_frozen BK770.out 1
         have hns43_0 := NB768_770.out
         have hns43_1 := NB769_770.out
         have hms43_0 := NB770_768.out
         have hms43_1 := NB770_769.out
         have hs44 : w27.cell? ⟨gb770, 2, none⟩ = some (.string a2_2) := (blk_cell BK770.out 2).trans rfl
         have hfs44 := blk_frozen BK770.out 2
         have hns44_0 := NB768_770.out
         have hns44_1 := NB769_770.out
         have hms44_0 := NB770_768.out
         have hms44_1 := NB770_769.out
         have hs46 : w27.cell? ⟨gb770, 3, none⟩ = some (.slice A2_3 l2_3.length c2_3) := (blk_cell BK770.out 3).trans rfl
         have hfs46 := blk_frozen BK770.out 3
         have hns46_0 := NB768_770.out
         have hns46_1 := NB769_770.out
         have hms46_0 := NB770_768.out
         have hms46_1 := NB770_769.out
         have hs48 : w27.cell? ⟨gb770, 4, none⟩ = some (.slice A2_4 l2_4.length c2_4) := (blk_cell BK770.out 4).trans rfl
         have hfs48 := blk_frozen BK770.out 4
         have hns48_0 := NB768_770.out
         have hns48_1 := NB769_770.out
         have hms48_0 := NB770_768.out
         have hms48_1 := NB770_769.out
         refine skip_ (w1 := ?_) ?_ ?_ ?_ ?_
         rotate_left
         ·rfl
         ·rfl
         ·go_simp
          rfl
         refine hK.out _ _ ?_
         clear hK K
         refine done_ (done_of HT_.out kr_) ?_
         try go_wp2
         have n0_ : Aside0 (Kd.R k49 49 (((((((((((((((w27.setCell ⟨gb768, 0, none⟩ (.int .i64 t771)).setCell ⟨gb768, 1, none⟩ (.string t772)).setCell ⟨gb768, 2, none⟩ (.string t773)).setCell ⟨gb768, 3, none⟩ (.slice Ao31 t774.length co31)).setCell ⟨gb768, 4, none⟩ (.slice Ao33 t777.length co33)).setCell ⟨gb769, 0, none⟩ (.int .i64 t780)).setCell ⟨gb769, 1, none⟩ (.string t781)).setCell ⟨gb769, 2, none⟩ (.string t782)).setCell ⟨gb769, 3, none⟩ (.slice Ao38 t783.length co38)).setCell ⟨gb769, 4, none⟩ (.slice Ao40 t786.length co40)).setCell ⟨gb770, 0, none⟩ (.int .i64 t789)).setCell ⟨gb770, 1, none⟩ (.string t790)).setCell ⟨gb770, 2, none⟩ (.string t791)).setCell ⟨gb770, 3, none⟩ (.slice Ao45 t792.length co45)).setCell ⟨gb770, 4, none⟩ (.slice Ao47 t795.length co47)) w.heap.size (fun k_ => some k_ ≠ (.slice Ao33 t777.length co33 : Value).ownBlock ∧ some k_ ≠ (.slice Ao38 t783.length co38 : Value).ownBlock ∧ some k_ ≠ (.slice Ao40 t786.length co40 : Value).ownBlock ∧ some k_ ≠ (.slice Ao45 t792.length co45 : Value).ownBlock ∧ some k_ ≠ (.slice Ao47 t795.length co47 : Value).ownBlock) (.slice Ao31 t774.length co31) t774) := ⟨by (with_reducible repeat (first | apply Kd.R_alloc | apply Kd.R_drewN | apply Kd.R_drew)); exact Kd.R_mono (Kd.R_far (p := ⟨gb770, 4, none⟩) (Kd.R_far (p := ⟨gb770, 3, none⟩) (Kd.R_far (p := ⟨gb770, 2, none⟩) (Kd.R_far (p := ⟨gb770, 1, none⟩) (Kd.R_far (p := ⟨gb770, 0, none⟩) (Kd.R_far (p := ⟨gb769, 4, none⟩) (Kd.R_far (p := ⟨gb769, 3, none⟩) (Kd.R_far (p := ⟨gb769, 2, none⟩) (Kd.R_far (p := ⟨gb769, 1, none⟩) (Kd.R_far (p := ⟨gb769, 0, none⟩) (Kd.R_far (p := ⟨gb768, 4, none⟩) (Kd.R_far (p := ⟨gb768, 3, none⟩) (Kd.R_far (p := ⟨gb768, 2, none⟩) (Kd.R_far (p := ⟨gb768, 1, none⟩) (Kd.R_far (p := ⟨gb768, 0, none⟩) (Kd.R_types (Kd.R_types (Kd.R_types HO776.out BK768.out (by decide)) BK769.out (by decide)) BK770.out (by decide)) (fun _ hk => hk.1.1.2) (.int .i64 t771)) (fun _ hk => hk.1.1.2) (.string t772)) (fun _ hk => hk.1.1.2) (.string t773)) (fun _ hk => hk.1.1.2) (.slice Ao31 t774.length co31)) (fun _ hk => hk.1.1.2) (.slice Ao33 t777.length co33)) (fun _ hk => hk.1.2) (.int .i64 t780)) (fun _ hk => hk.1.2) (.string t781)) (fun _ hk => hk.1.2) (.string t782)) (fun _ hk => hk.1.2) (.slice Ao38 t783.length co38)) (fun _ hk => hk.1.2) (.slice Ao40 t786.length co40)) (fun _ hk => hk.2) (.int .i64 t789)) (fun _ hk => hk.2) (.string t790)) (fun _ hk => hk.2) (.string t791)) (fun _ hk => hk.2) (.slice Ao45 t792.length co45)) (fun _ hk => hk.2) (.slice Ao47 t795.length co47)) (fun _ hk => ⟨hk.1.1.1.1.1.1.1, ⟨hk.1.1.1.1.1.1.2, ⟨hk.1.1.1.1.1.2, ⟨hk.1.1.1.1.2, hk.1.1.1.2⟩⟩⟩⟩)⟩
         have n1_ : Aside0 (Kd.R k49 49 (((((((((((((((w27.setCell ⟨gb768, 0, none⟩ (.int .i64 t771)).setCell ⟨gb768, 1, none⟩ (.string t772)).setCell ⟨gb768, 2, none⟩ (.string t773)).setCell ⟨gb768, 3, none⟩ (.slice Ao31 t774.length co31)).setCell ⟨gb768, 4, none⟩ (.slice Ao33 t777.length co33)).setCell ⟨gb769, 0, none⟩ (.int .i64 t780)).setCell ⟨gb769, 1, none⟩ (.string t781)).setCell ⟨gb769, 2, none⟩ (.string t782)).setCell ⟨gb769, 3, none⟩ (.slice Ao38 t783.length co38)).setCell ⟨gb769, 4, none⟩ (.slice Ao40 t786.length co40)).setCell ⟨gb770, 0, none⟩ (.int .i64 t789)).setCell ⟨gb770, 1, none⟩ (.string t790)).setCell ⟨gb770, 2, none⟩ (.string t791)).setCell ⟨gb770, 3, none⟩ (.slice Ao45 t792.length co45)).setCell ⟨gb770, 4, none⟩ (.slice Ao47 t795.length co47)) w.heap.size (fun k_ => some k_ ≠ (.slice Ao31 t774.length co31 : Value).ownBlock ∧ some k_ ≠ (.slice Ao38 t783.length co38 : Value).ownBlock ∧ some k_ ≠ (.slice Ao40 t786.length co40 : Value).ownBlock ∧ some k_ ≠ (.slice Ao45 t792.length co45 : Value).ownBlock ∧ some k_ ≠ (.slice Ao47 t795.length co47 : Value).ownBlock) (.slice Ao33 t777.length co33) t777) := ⟨by (with_reducible repeat (first | apply Kd.R_alloc | apply Kd.R_drewN | apply Kd.R_drew)); exact Kd.R_mono (Kd.R_far (p := ⟨gb770, 4, none⟩) (Kd.R_far (p := ⟨gb770, 3, none⟩) (Kd.R_far (p := ⟨gb770, 2, none⟩) (Kd.R_far (p := ⟨gb770, 1, none⟩) (Kd.R_far (p := ⟨gb770, 0, none⟩) (Kd.R_far (p := ⟨gb769, 4, none⟩) (Kd.R_far (p := ⟨gb769, 3, none⟩) (Kd.R_far (p := ⟨gb769, 2, none⟩) (Kd.R_far (p := ⟨gb769, 1, none⟩) (Kd.R_far (p := ⟨gb769, 0, none⟩) (Kd.R_far (p := ⟨gb768, 4, none⟩) (Kd.R_far (p := ⟨gb768, 3, none⟩) (Kd.R_far (p := ⟨gb768, 2, none⟩) (Kd.R_far (p := ⟨gb768, 1, none⟩) (Kd.R_far (p := ⟨gb768, 0, none⟩) (Kd.R_types (Kd.R_types (Kd.R_types HO779.out BK768.out (by decide)) BK769.out (by decide)) BK770.out (by decide)) (fun _ hk => hk.1.1.2) (.int .i64 t771)) (fun _ hk => hk.1.1.2) (.string t772)) (fun _ hk => hk.1.1.2) (.string t773)) (fun _ hk => hk.1.1.2) (.slice Ao31 t774.length co31)) (fun _ hk => hk.1.1.2) (.slice Ao33 t777.length co33)) (fun _ hk => hk.1.2) (.int .i64 t780)) (fun _ hk => hk.1.2) (.string t781)) (fun _ hk => hk.1.2) (.string t782)) (fun _ hk => hk.1.2) (.slice Ao38 t783.length co38)) (fun _ hk => hk.1.2) (.slice Ao40 t786.length co40)) (fun _ hk => hk.2) (.int .i64 t789)) (fun _ hk => hk.2) (.string t790)) (fun _ hk => hk.2) (.string t791)) (fun _ hk => hk.2) (.slice Ao45 t792.length co45)) (fun _ hk => hk.2) (.slice Ao47 t795.length co47)) (fun _ hk => ⟨hk.1.1.1.1.1.1.1, ⟨hk.1.1.1.1.1.1.2, ⟨hk.1.1.1.1.1.2, ⟨hk.1.1.1.1.2, hk.1.1.1.2⟩⟩⟩⟩)⟩
         have n2_ : Aside0 (Kd.R k49 49 (((((((((((((((w27.setCell ⟨gb768, 0, none⟩ (.int .i64 t771)).setCell ⟨gb768, 1, none⟩ (.string t772)).setCell ⟨gb768, 2, none⟩ (.string t773)).setCell ⟨gb768, 3, none⟩ (.slice Ao31 t774.length co31)).setCell ⟨gb768, 4, none⟩ (.slice Ao33 t777.length co33)).setCell ⟨gb769, 0, none⟩ (.int .i64 t780)).setCell ⟨gb769, 1, none⟩ (.string t781)).setCell ⟨gb769, 2, none⟩ (.string t782)).setCell ⟨gb769, 3, none⟩ (.slice Ao38 t783.length co38)).setCell ⟨gb769, 4, none⟩ (.slice Ao40 t786.length co40)).setCell ⟨gb770, 0, none⟩ (.int .i64 t789)).setCell ⟨gb770, 1, none⟩ (.string t790)).setCell ⟨gb770, 2, none⟩ (.string t791)).setCell ⟨gb770, 3, none⟩ (.slice Ao45 t792.length co45)).setCell ⟨gb770, 4, none⟩ (.slice Ao47 t795.length co47)) w.heap.size (fun k_ => some k_ ≠ (.slice Ao31 t774.length co31 : Value).ownBlock ∧ some k_ ≠ (.slice Ao33 t777.length co33 : Value).ownBlock ∧ some k_ ≠ (.slice Ao40 t786.length co40 : Value).ownBlock ∧ some k_ ≠ (.slice Ao45 t792.length co45 : Value).ownBlock ∧ some k_ ≠ (.slice Ao47 t795.length co47 : Value).ownBlock) (.slice Ao38 t783.length co38) t783) := ⟨by (with_reducible repeat (first | apply Kd.R_alloc | apply Kd.R_drewN | apply Kd.R_drew)); exact Kd.R_mono (Kd.R_far (p := ⟨gb770, 4, none⟩) (Kd.R_far (p := ⟨gb770, 3, none⟩) (Kd.R_far (p := ⟨gb770, 2, none⟩) (Kd.R_far (p := ⟨gb770, 1, none⟩) (Kd.R_far (p := ⟨gb770, 0, none⟩) (Kd.R_far (p := ⟨gb769, 4, none⟩) (Kd.R_far (p := ⟨gb769, 3, none⟩) (Kd.R_far (p := ⟨gb769, 2, none⟩) (Kd.R_far (p := ⟨gb769, 1, none⟩) (Kd.R_far (p := ⟨gb769, 0, none⟩) (Kd.R_far (p := ⟨gb768, 4, none⟩) (Kd.R_far (p := ⟨gb768, 3, none⟩) (Kd.R_far (p := ⟨gb768, 2, none⟩) (Kd.R_far (p := ⟨gb768, 1, none⟩) (Kd.R_far (p := ⟨gb768, 0, none⟩) (Kd.R_types (Kd.R_types (Kd.R_types HO785.out BK768.out (by decide)) BK769.out (by decide)) BK770.out (by decide)) (fun _ hk => hk.1.1.2) (.int .i64 t771)) (fun _ hk => hk.1.1.2) (.string t772)) (fun _ hk => hk.1.1.2) (.string t773)) (fun _ hk => hk.1.1.2) (.slice Ao31 t774.length co31)) (fun _ hk => hk.1.1.2) (.slice Ao33 t777.length co33)) (fun _ hk => hk.1.2) (.int .i64 t780)) (fun _ hk => hk.1.2) (.string t781)) (fun _ hk => hk.1.2) (.string t782)) (fun _ hk => hk.1.2) (.slice Ao38 t783.length co38)) (fun _ hk => hk.1.2) (.slice Ao40 t786.length co40)) (fun _ hk => hk.2) (.int .i64 t789)) (fun _ hk => hk.2) (.string t790)) (fun _ hk => hk.2) (.string t791)) (fun _ hk => hk.2) (.slice Ao45 t792.length co45)) (fun _ hk => hk.2) (.slice Ao47 t795.length co47)) (fun _ hk => ⟨hk.1.1.1.1.1.1.2, ⟨hk.1.1.1.1.1.2, ⟨hk.1.1.1.1.1.1.1, ⟨hk.1.1.1.1.2, hk.1.1.1.2⟩⟩⟩⟩)⟩
         have n3_ : Aside0 (Kd.R k49 49 (((((((((((((((w27.setCell ⟨gb768, 0, none⟩ (.int .i64 t771)).setCell ⟨gb768, 1, none⟩ (.string t772)).setCell ⟨gb768, 2, none⟩ (.string t773)).setCell ⟨gb768, 3, none⟩ (.slice Ao31 t774.length co31)).setCell ⟨gb768, 4, none⟩ (.slice Ao33 t777.length co33)).setCell ⟨gb769, 0, none⟩ (.int .i64 t780)).setCell ⟨gb769, 1, none⟩ (.string t781)).setCell ⟨gb769, 2, none⟩ (.string t782)).setCell ⟨gb769, 3, none⟩ (.slice Ao38 t783.length co38)).setCell ⟨gb769, 4, none⟩ (.slice Ao40 t786.length co40)).setCell ⟨gb770, 0, none⟩ (.int .i64 t789)).setCell ⟨gb770, 1, none⟩ (.string t790)).setCell ⟨gb770, 2, none⟩ (.string t791)).setCell ⟨gb770, 3, none⟩ (.slice Ao45 t792.length co45)).setCell ⟨gb770, 4, none⟩ (.slice Ao47 t795.length co47)) w.heap.size (fun k_ => some k_ ≠ (.slice Ao31 t774.length co31 : Value).ownBlock ∧ some k_ ≠ (.slice Ao33 t777.length co33 : Value).ownBlock ∧ some k_ ≠ (.slice Ao38 t783.length co38 : Value).ownBlock ∧ some k_ ≠ (.slice Ao45 t792.length co45 : Value).ownBlock ∧ some k_ ≠ (.slice Ao47 t795.length co47 : Value).ownBlock) (.slice Ao40 t786.length co40) t786) := ⟨by (with_reducible repeat (first | apply Kd.R_alloc | apply Kd.R_drewN | apply Kd.R_drew)); exact Kd.R_mono (Kd.R_far (p := ⟨gb770, 4, none⟩) (Kd.R_far (p := ⟨gb770, 3, none⟩) (Kd.R_far (p := ⟨gb770, 2, none⟩) (Kd.R_far (p := ⟨gb770, 1, none⟩) (Kd.R_far (p := ⟨gb770, 0, none⟩) (Kd.R_far (p := ⟨gb769, 4, none⟩) (Kd.R_far (p := ⟨gb769, 3, none⟩) (Kd.R_far (p := ⟨gb769, 2, none⟩) (Kd.R_far (p := ⟨gb769, 1, none⟩) (Kd.R_far (p := ⟨gb769, 0, none⟩) (Kd.R_far (p := ⟨gb768, 4, none⟩) (Kd.R_far (p := ⟨gb768, 3, none⟩) (Kd.R_far (p := ⟨gb768, 2, none⟩) (Kd.R_far (p := ⟨gb768, 1, none⟩) (Kd.R_far (p := ⟨gb768, 0, none⟩) (Kd.R_types (Kd.R_types (Kd.R_types HO788.out BK768.out (by decide)) BK769.out (by decide)) BK770.out (by decide)) (fun _ hk => hk.1.1.2) (.int .i64 t771)) (fun _ hk => hk.1.1.2) (.string t772)) (fun _ hk => hk.1.1.2) (.string t773)) (fun _ hk => hk.1.1.2) (.slice Ao31 t774.length co31)) (fun _ hk => hk.1.1.2) (.slice Ao33 t777.length co33)) (fun _ hk => hk.1.2) (.int .i64 t780)) (fun _ hk => hk.1.2) (.string t781)) (fun _ hk => hk.1.2) (.string t782)) (fun _ hk => hk.1.2) (.slice Ao38 t783.length co38)) (fun _ hk => hk.1.2) (.slice Ao40 t786.length co40)) (fun _ hk => hk.2) (.int .i64 t789)) (fun _ hk => hk.2) (.string t790)) (fun _ hk => hk.2) (.string t791)) (fun _ hk => hk.2) (.slice Ao45 t792.length co45)) (fun _ hk => hk.2) (.slice Ao47 t795.length co47)) (fun _ hk => ⟨hk.1.1.1.1.1.1.2, ⟨hk.1.1.1.1.1.2, ⟨hk.1.1.1.1.1.1.1, ⟨hk.1.1.1.1.2, hk.1.1.1.2⟩⟩⟩⟩)⟩
         have n4_ : Aside0 (Kd.R k49 49 (((((((((((((((w27.setCell ⟨gb768, 0, none⟩ (.int .i64 t771)).setCell ⟨gb768, 1, none⟩ (.string t772)).setCell ⟨gb768, 2, none⟩ (.string t773)).setCell ⟨gb768, 3, none⟩ (.slice Ao31 t774.length co31)).setCell ⟨gb768, 4, none⟩ (.slice Ao33 t777.length co33)).setCell ⟨gb769, 0, none⟩ (.int .i64 t780)).setCell ⟨gb769, 1, none⟩ (.string t781)).setCell ⟨gb769, 2, none⟩ (.string t782)).setCell ⟨gb769, 3, none⟩ (.slice Ao38 t783.length co38)).setCell ⟨gb769, 4, none⟩ (.slice Ao40 t786.length co40)).setCell ⟨gb770, 0, none⟩ (.int .i64 t789)).setCell ⟨gb770, 1, none⟩ (.string t790)).setCell ⟨gb770, 2, none⟩ (.string t791)).setCell ⟨gb770, 3, none⟩ (.slice Ao45 t792.length co45)).setCell ⟨gb770, 4, none⟩ (.slice Ao47 t795.length co47)) w.heap.size (fun k_ => some k_ ≠ (.slice Ao31 t774.length co31 : Value).ownBlock ∧ some k_ ≠ (.slice Ao33 t777.length co33 : Value).ownBlock ∧ some k_ ≠ (.slice Ao38 t783.length co38 : Value).ownBlock ∧ some k_ ≠ (.slice Ao40 t786.length co40 : Value).ownBlock ∧ some k_ ≠ (.slice Ao47 t795.length co47 : Value).ownBlock) (.slice Ao45 t792.length co45) t792) := ⟨by (with_reducible repeat (first | apply Kd.R_alloc | apply Kd.R_drewN | apply Kd.R_drew)); exact Kd.R_mono (Kd.R_far (p := ⟨gb770, 4, none⟩) (Kd.R_far (p := ⟨gb770, 3, none⟩) (Kd.R_far (p := ⟨gb770, 2, none⟩) (Kd.R_far (p := ⟨gb770, 1, none⟩) (Kd.R_far (p := ⟨gb770, 0, none⟩) (Kd.R_far (p := ⟨gb769, 4, none⟩) (Kd.R_far (p := ⟨gb769, 3, none⟩) (Kd.R_far (p := ⟨gb769, 2, none⟩) (Kd.R_far (p := ⟨gb769, 1, none⟩) (Kd.R_far (p := ⟨gb769, 0, none⟩) (Kd.R_far (p := ⟨gb768, 4, none⟩) (Kd.R_far (p := ⟨gb768, 3, none⟩) (Kd.R_far (p := ⟨gb768, 2, none⟩) (Kd.R_far (p := ⟨gb768, 1, none⟩) (Kd.R_far (p := ⟨gb768, 0, none⟩) (Kd.R_types (Kd.R_types (Kd.R_types HO794.out BK768.out (by decide)) BK769.out (by decide)) BK770.out (by decide)) (fun _ hk => hk.1.1.2) (.int .i64 t771)) (fun _ hk => hk.1.1.2) (.string t772)) (fun _ hk => hk.1.1.2) (.string t773)) (fun _ hk => hk.1.1.2) (.slice Ao31 t774.length co31)) (fun _ hk => hk.1.1.2) (.slice Ao33 t777.length co33)) (fun _ hk => hk.1.2) (.int .i64 t780)) (fun _ hk => hk.1.2) (.string t781)) (fun _ hk => hk.1.2) (.string t782)) (fun _ hk => hk.1.2) (.slice Ao38 t783.length co38)) (fun _ hk => hk.1.2) (.slice Ao40 t786.length co40)) (fun _ hk => hk.2) (.int .i64 t789)) (fun _ hk => hk.2) (.string t790)) (fun _ hk => hk.2) (.string t791)) (fun _ hk => hk.2) (.slice Ao45 t792.length co45)) (fun _ hk => hk.2) (.slice Ao47 t795.length co47)) (fun _ hk => ⟨hk.1.1.1.1.1.1.2, ⟨hk.1.1.1.1.1.2, ⟨hk.1.1.1.1.2, ⟨hk.1.1.1.2, hk.1.1.1.1.1.1.1⟩⟩⟩⟩)⟩
         have n5_ : Aside0 (Kd.R k49 49 (((((((((((((((w27.setCell ⟨gb768, 0, none⟩ (.int .i64 t771)).setCell ⟨gb768, 1, none⟩ (.string t772)).setCell ⟨gb768, 2, none⟩ (.string t773)).setCell ⟨gb768, 3, none⟩ (.slice Ao31 t774.length co31)).setCell ⟨gb768, 4, none⟩ (.slice Ao33 t777.length co33)).setCell ⟨gb769, 0, none⟩ (.int .i64 t780)).setCell ⟨gb769, 1, none⟩ (.string t781)).setCell ⟨gb769, 2, none⟩ (.string t782)).setCell ⟨gb769, 3, none⟩ (.slice Ao38 t783.length co38)).setCell ⟨gb769, 4, none⟩ (.slice Ao40 t786.length co40)).setCell ⟨gb770, 0, none⟩ (.int .i64 t789)).setCell ⟨gb770, 1, none⟩ (.string t790)).setCell ⟨gb770, 2, none⟩ (.string t791)).setCell ⟨gb770, 3, none⟩ (.slice Ao45 t792.length co45)).setCell ⟨gb770, 4, none⟩ (.slice Ao47 t795.length co47)) w.heap.size (fun k_ => some k_ ≠ (.slice Ao31 t774.length co31 : Value).ownBlock ∧ some k_ ≠ (.slice Ao33 t777.length co33 : Value).ownBlock ∧ some k_ ≠ (.slice Ao38 t783.length co38 : Value).ownBlock ∧ some k_ ≠ (.slice Ao40 t786.length co40 : Value).ownBlock ∧ some k_ ≠ (.slice Ao45 t792.length co45 : Value).ownBlock) (.slice Ao47 t795.length co47) t795) := ⟨by (with_reducible repeat (first | apply Kd.R_alloc | apply Kd.R_drewN | apply Kd.R_drew)); exact Kd.R_mono (Kd.R_far (p := ⟨gb770, 4, none⟩) (Kd.R_far (p := ⟨gb770, 3, none⟩) (Kd.R_far (p := ⟨gb770, 2, none⟩) (Kd.R_far (p := ⟨gb770, 1, none⟩) (Kd.R_far (p := ⟨gb770, 0, none⟩) (Kd.R_far (p := ⟨gb769, 4, none⟩) (Kd.R_far (p := ⟨gb769, 3, none⟩) (Kd.R_far (p := ⟨gb769, 2, none⟩) (Kd.R_far (p := ⟨gb769, 1, none⟩) (Kd.R_far (p := ⟨gb769, 0, none⟩) (Kd.R_far (p := ⟨gb768, 4, none⟩) (Kd.R_far (p := ⟨gb768, 3, none⟩) (Kd.R_far (p := ⟨gb768, 2, none⟩) (Kd.R_far (p := ⟨gb768, 1, none⟩) (Kd.R_far (p := ⟨gb768, 0, none⟩) (Kd.R_types (Kd.R_types (Kd.R_types HO797.out BK768.out (by decide)) BK769.out (by decide)) BK770.out (by decide)) (fun _ hk => hk.1.1.2) (.int .i64 t771)) (fun _ hk => hk.1.1.2) (.string t772)) (fun _ hk => hk.1.1.2) (.string t773)) (fun _ hk => hk.1.1.2) (.slice Ao31 t774.length co31)) (fun _ hk => hk.1.1.2) (.slice Ao33 t777.length co33)) (fun _ hk => hk.1.2) (.int .i64 t780)) (fun _ hk => hk.1.2) (.string t781)) (fun _ hk => hk.1.2) (.string t782)) (fun _ hk => hk.1.2) (.slice Ao38 t783.length co38)) (fun _ hk => hk.1.2) (.slice Ao40 t786.length co40)) (fun _ hk => hk.2) (.int .i64 t789)) (fun _ hk => hk.2) (.string t790)) (fun _ hk => hk.2) (.string t791)) (fun _ hk => hk.2) (.slice Ao45 t792.length co45)) (fun _ hk => hk.2) (.slice Ao47 t795.length co47)) (fun _ hk => ⟨hk.1.1.1.1.1.1.2, ⟨hk.1.1.1.1.1.2, ⟨hk.1.1.1.1.2, ⟨hk.1.1.1.2, hk.1.1.1.1.1.1.1⟩⟩⟩⟩)⟩
         have n6_ : Aside0 ((((((((((((((((w27.setCell ⟨gb768, 0, none⟩ (.int .i64 t771)).setCell ⟨gb768, 1, none⟩ (.string t772)).setCell ⟨gb768, 2, none⟩ (.string t773)).setCell ⟨gb768, 3, none⟩ (.slice Ao31 t774.length co31)).setCell ⟨gb768, 4, none⟩ (.slice Ao33 t777.length co33)).setCell ⟨gb769, 0, none⟩ (.int .i64 t780)).setCell ⟨gb769, 1, none⟩ (.string t781)).setCell ⟨gb769, 2, none⟩ (.string t782)).setCell ⟨gb769, 3, none⟩ (.slice Ao38 t783.length co38)).setCell ⟨gb769, 4, none⟩ (.slice Ao40 t786.length co40)).setCell ⟨gb770, 0, none⟩ (.int .i64 t789)).setCell ⟨gb770, 1, none⟩ (.string t790)).setCell ⟨gb770, 2, none⟩ (.string t791)).setCell ⟨gb770, 3, none⟩ (.slice Ao45 t792.length co45)).setCell ⟨gb770, 4, none⟩ (.slice Ao47 t795.length co47)).heap[gb768]? = some (.cells #[.int .i64 t771, .string t772, .string t773, .slice Ao31 t774.length co31, .slice Ao33 t777.length co33] 26 (0, 0))) := ⟨by (with_reducible repeat (first | refine blk_drewN ?_ _ | refine blk_drew ?_ | refine blk_alloc ?_ _)); refine blk_far ?_ NB768_770.out _; (with_reducible repeat (first | refine blk_drewN ?_ _ | refine blk_drew ?_ | refine blk_alloc ?_ _)); refine blk_far ?_ NB768_770.out _; (with_reducible repeat (first | refine blk_drewN ?_ _ | refine blk_drew ?_ | refine blk_alloc ?_ _)); refine blk_far ?_ NB768_770.out _; (with_reducible repeat (first | refine blk_drewN ?_ _ | refine blk_drew ?_ | refine blk_alloc ?_ _)); refine blk_far ?_ NB768_770.out _; (with_reducible repeat (first | refine blk_drewN ?_ _ | refine blk_drew ?_ | refine blk_alloc ?_ _)); refine blk_far ?_ NB768_770.out _; (with_reducible repeat (first | refine blk_drewN ?_ _ | refine blk_drew ?_ | refine blk_alloc ?_ _)); refine blk_far ?_ NB768_769.out _; (with_reducible repeat (first | refine blk_drewN ?_ _ | refine blk_drew ?_ | refine blk_alloc ?_ _)); refine blk_far ?_ NB768_769.out _; (with_reducible repeat (first | refine blk_drewN ?_ _ | refine blk_drew ?_ | refine blk_alloc ?_ _)); refine blk_far ?_ NB768_769.out _; (with_reducible repeat (first | refine blk_drewN ?_ _ | refine blk_drew ?_ | refine blk_alloc ?_ _)); refine blk_far ?_ NB768_769.out _; (with_reducible repeat (first | refine blk_drewN ?_ _ | refine blk_drew ?_ | refine blk_alloc ?_ _)); refine blk_far ?_ NB768_769.out _; (with_reducible repeat (first | refine blk_drewN ?_ _ | refine blk_drew ?_ | refine blk_alloc ?_ _)); refine blk_put (cs := #[.int .i64 t771, .string t772, .string t773, .slice Ao31 t774.length co31, .slice A0_4 l0_4.length c0_4]) ?_ 4 _ rfl; (with_reducible repeat (first | refine blk_drewN ?_ _ | refine blk_drew ?_ | refine blk_alloc ?_ _)); refine blk_put (cs := #[.int .i64 t771, .string t772, .string t773, .slice A0_3 l0_3.length c0_3, .slice A0_4 l0_4.length c0_4]) ?_ 3 _ rfl; (with_reducible repeat (first | refine blk_drewN ?_ _ | refine blk_drew ?_ | refine blk_alloc ?_ _)); refine blk_put (cs := #[.int .i64 t771, .string t772, .string a0_2, .slice A0_3 l0_3.length c0_3, .slice A0_4 l0_4.length c0_4]) ?_ 2 _ rfl; (with_reducible repeat (first | refine blk_drewN ?_ _ | refine blk_drew ?_ | refine blk_alloc ?_ _)); refine blk_put (cs := #[.int .i64 t771, .string a0_1, .string a0_2, .slice A0_3 l0_3.length c0_3, .slice A0_4 l0_4.length c0_4]) ?_ 1 _ rfl; (with_reducible repeat (first | refine blk_drewN ?_ _ | refine blk_drew ?_ | refine blk_alloc ?_ _)); refine blk_put (cs := #[.int .i64 a0_0, .string a0_1, .string a0_2, .slice A0_3 l0_3.length c0_3, .slice A0_4 l0_4.length c0_4]) ?_ 0 _ rfl; (with_reducible repeat (first | refine blk_drewN ?_ _ | refine blk_drew ?_ | refine blk_alloc ?_ _)); exact BK768.out⟩
         have n7_ : Aside0 ((((((((((((((((w27.setCell ⟨gb768, 0, none⟩ (.int .i64 t771)).setCell ⟨gb768, 1, none⟩ (.string t772)).setCell ⟨gb768, 2, none⟩ (.string t773)).setCell ⟨gb768, 3, none⟩ (.slice Ao31 t774.length co31)).setCell ⟨gb768, 4, none⟩ (.slice Ao33 t777.length co33)).setCell ⟨gb769, 0, none⟩ (.int .i64 t780)).setCell ⟨gb769, 1, none⟩ (.string t781)).setCell ⟨gb769, 2, none⟩ (.string t782)).setCell ⟨gb769, 3, none⟩ (.slice Ao38 t783.length co38)).setCell ⟨gb769, 4, none⟩ (.slice Ao40 t786.length co40)).setCell ⟨gb770, 0, none⟩ (.int .i64 t789)).setCell ⟨gb770, 1, none⟩ (.string t790)).setCell ⟨gb770, 2, none⟩ (.string t791)).setCell ⟨gb770, 3, none⟩ (.slice Ao45 t792.length co45)).setCell ⟨gb770, 4, none⟩ (.slice Ao47 t795.length co47)).heap[gb769]? = some (.cells #[.int .i64 t780, .string t781, .string t782, .slice Ao38 t783.length co38, .slice Ao40 t786.length co40] 26 (0, 0))) := ⟨by (with_reducible repeat (first | refine blk_drewN ?_ _ | refine blk_drew ?_ | refine blk_alloc ?_ _)); refine blk_far ?_ NB769_770.out _; (with_reducible repeat (first | refine blk_drewN ?_ _ | refine blk_drew ?_ | refine blk_alloc ?_ _)); refine blk_far ?_ NB769_770.out _; (with_reducible repeat (first | refine blk_drewN ?_ _ | refine blk_drew ?_ | refine blk_alloc ?_ _)); refine blk_far ?_ NB769_770.out _; (with_reducible repeat (first | refine blk_drewN ?_ _ | refine blk_drew ?_ | refine blk_alloc ?_ _)); refine blk_far ?_ NB769_770.out _; (with_reducible repeat (first | refine blk_drewN ?_ _ | refine blk_drew ?_ | refine blk_alloc ?_ _)); refine blk_far ?_ NB769_770.out _; (with_reducible repeat (first | refine blk_drewN ?_ _ | refine blk_drew ?_ | refine blk_alloc ?_ _)); refine blk_put (cs := #[.int .i64 t780, .string t781, .string t782, .slice Ao38 t783.length co38, .slice A1_4 l1_4.length c1_4]) ?_ 4 _ rfl; (with_reducible repeat (first | refine blk_drewN ?_ _ | refine blk_drew ?_ | refine blk_alloc ?_ _)); refine blk_put (cs := #[.int .i64 t780, .string t781, .string t782, .slice A1_3 l1_3.length c1_3, .slice A1_4 l1_4.length c1_4]) ?_ 3 _ rfl; (with_reducible repeat (first | refine blk_drewN ?_ _ | refine blk_drew ?_ | refine blk_alloc ?_ _)); refine blk_put (cs := #[.int .i64 t780, .string t781, .string a1_2, .slice A1_3 l1_3.length c1_3, .slice A1_4 l1_4.length c1_4]) ?_ 2 _ rfl; (with_reducible repeat (first | refine blk_drewN ?_ _ | refine blk_drew ?_ | refine blk_alloc ?_ _)); refine blk_put (cs := #[.int .i64 t780, .string a1_1, .string a1_2, .slice A1_3 l1_3.length c1_3, .slice A1_4 l1_4.length c1_4]) ?_ 1 _ rfl; (with_reducible repeat (first | refine blk_drewN ?_ _ | refine blk_drew ?_ | refine blk_alloc ?_ _)); refine blk_put (cs := #[.int .i64 a1_0, .string a1_1, .string a1_2, .slice A1_3 l1_3.length c1_3, .slice A1_4 l1_4.length c1_4]) ?_ 0 _ rfl; (with_reducible repeat (first | refine blk_drewN ?_ _ | refine blk_drew ?_ | refine blk_alloc ?_ _)); refine blk_far ?_ NB769_768.out _; (with_reducible repeat (first | refine blk_drewN ?_ _ | refine blk_drew ?_ | refine blk_alloc ?_ _)); refine blk_far ?_ NB769_768.out _; (with_reducible repeat (first | refine blk_drewN ?_ _ | refine blk_drew ?_ | refine blk_alloc ?_ _)); refine blk_far ?_ NB769_768.out _; (with_reducible repeat (first | refine blk_drewN ?_ _ | refine blk_drew ?_ | refine blk_alloc ?_ _)); refine blk_far ?_ NB769_768.out _; (with_reducible repeat (first | refine blk_drewN ?_ _ | refine blk_drew ?_ | refine blk_alloc ?_ _)); refine blk_far ?_ NB769_768.out _; (with_reducible repeat (first | refine blk_drewN ?_ _ | refine blk_drew ?_ | refine blk_alloc ?_ _)); exact BK769.out⟩
         have n8_ : Aside0 ((((((((((((((((w27.setCell ⟨gb768, 0, none⟩ (.int .i64 t771)).setCell ⟨gb768, 1, none⟩ (.string t772)).setCell ⟨gb768, 2, none⟩ (.string t773)).setCell ⟨gb768, 3, none⟩ (.slice Ao31 t774.length co31)).setCell ⟨gb768, 4, none⟩ (.slice Ao33 t777.length co33)).setCell ⟨gb769, 0, none⟩ (.int .i64 t780)).setCell ⟨gb769, 1, none⟩ (.string t781)).setCell ⟨gb769, 2, none⟩ (.string t782)).setCell ⟨gb769, 3, none⟩ (.slice Ao38 t783.length co38)).setCell ⟨gb769, 4, none⟩ (.slice Ao40 t786.length co40)).setCell ⟨gb770, 0, none⟩ (.int .i64 t789)).setCell ⟨gb770, 1, none⟩ (.string t790)).setCell ⟨gb770, 2, none⟩ (.string t791)).setCell ⟨gb770, 3, none⟩ (.slice Ao45 t792.length co45)).setCell ⟨gb770, 4, none⟩ (.slice Ao47 t795.length co47)).heap[gb770]? = some (.cells #[.int .i64 t789, .string t790, .string t791, .slice Ao45 t792.length co45, .slice Ao47 t795.length co47] 26 (0, 0))) := ⟨by (with_reducible repeat (first | refine blk_drewN ?_ _ | refine blk_drew ?_ | refine blk_alloc ?_ _)); refine blk_put (cs := #[.int .i64 t789, .string t790, .string t791, .slice Ao45 t792.length co45, .slice A2_4 l2_4.length c2_4]) ?_ 4 _ rfl; (with_reducible repeat (first | refine blk_drewN ?_ _ | refine blk_drew ?_ | refine blk_alloc ?_ _)); refine blk_put (cs := #[.int .i64 t789, .string t790, .string t791, .slice A2_3 l2_3.length c2_3, .slice A2_4 l2_4.length c2_4]) ?_ 3 _ rfl; (with_reducible repeat (first | refine blk_drewN ?_ _ | refine blk_drew ?_ | refine blk_alloc ?_ _)); refine blk_put (cs := #[.int .i64 t789, .string t790, .string a2_2, .slice A2_3 l2_3.length c2_3, .slice A2_4 l2_4.length c2_4]) ?_ 2 _ rfl; (with_reducible repeat (first | refine blk_drewN ?_ _ | refine blk_drew ?_ | refine blk_alloc ?_ _)); refine blk_put (cs := #[.int .i64 t789, .string a2_1, .string a2_2, .slice A2_3 l2_3.length c2_3, .slice A2_4 l2_4.length c2_4]) ?_ 1 _ rfl; (with_reducible repeat (first | refine blk_drewN ?_ _ | refine blk_drew ?_ | refine blk_alloc ?_ _)); refine blk_put (cs := #[.int .i64 a2_0, .string a2_1, .string a2_2, .slice A2_3 l2_3.length c2_3, .slice A2_4 l2_4.length c2_4]) ?_ 0 _ rfl; (with_reducible repeat (first | refine blk_drewN ?_ _ | refine blk_drew ?_ | refine blk_alloc ?_ _)); refine blk_far ?_ NB770_769.out _; (with_reducible repeat (first | refine blk_drewN ?_ _ | refine blk_drew ?_ | refine blk_alloc ?_ _)); refine blk_far ?_ NB770_769.out _; (with_reducible repeat (first | refine blk_drewN ?_ _ | refine blk_drew ?_ | refine blk_alloc ?_ _)); refine blk_far ?_ NB770_769.out _; (with_reducible repeat (first | refine blk_drewN ?_ _ | refine blk_drew ?_ | refine blk_alloc ?_ _)); refine blk_far ?_ NB770_769.out _; (with_reducible repeat (first | refine blk_drewN ?_ _ | refine blk_drew ?_ | refine blk_alloc ?_ _)); refine blk_far ?_ NB770_769.out _; (with_reducible repeat (first | refine blk_drewN ?_ _ | refine blk_drew ?_ | refine blk_alloc ?_ _)); refine blk_far ?_ NB770_768.out _; (with_reducible repeat (first | refine blk_drewN ?_ _ | refine blk_drew ?_ | refine blk_alloc ?_ _)); refine blk_far ?_ NB770_768.out _; (with_reducible repeat (first | refine blk_drewN ?_ _ | refine blk_drew ?_ | refine blk_alloc ?_ _)); refine blk_far ?_ NB770_768.out _; (with_reducible repeat (first | refine blk_drewN ?_ _ | refine blk_drew ?_ | refine blk_alloc ?_ _)); refine blk_far ?_ NB770_768.out _; (with_reducible repeat (first | refine blk_drewN ?_ _ | refine blk_drew ?_ | refine blk_alloc ?_ _)); refine blk_far ?_ NB770_768.out _; (with_reducible repeat (first | refine blk_drewN ?_ _ | refine blk_drew ?_ | refine blk_alloc ?_ _)); exact BK770.out⟩
         have n9_ : Aside0 (Below w.heap.size w (((((((((((((((w27.setCell ⟨gb768, 0, none⟩ (.int .i64 t771)).setCell ⟨gb768, 1, none⟩ (.string t772)).setCell ⟨gb768, 2, none⟩ (.string t773)).setCell ⟨gb768, 3, none⟩ (.slice Ao31 t774.length co31)).setCell ⟨gb768, 4, none⟩ (.slice Ao33 t777.length co33)).setCell ⟨gb769, 0, none⟩ (.int .i64 t780)).setCell ⟨gb769, 1, none⟩ (.string t781)).setCell ⟨gb769, 2, none⟩ (.string t782)).setCell ⟨gb769, 3, none⟩ (.slice Ao38 t783.length co38)).setCell ⟨gb769, 4, none⟩ (.slice Ao40 t786.length co40)).setCell ⟨gb770, 0, none⟩ (.int .i64 t789)).setCell ⟨gb770, 1, none⟩ (.string t790)).setCell ⟨gb770, 2, none⟩ (.string t791)).setCell ⟨gb770, 3, none⟩ (.slice Ao45 t792.length co45)).setCell ⟨gb770, 4, none⟩ (.slice Ao47 t795.length co47))) := ⟨bel_ HB.out⟩
         (try clear HO776)
         (try clear HO779)
         (try clear HO785)
         (try clear HO788)
         (try clear HO794)
         (try clear HO797)
         (try clear BK768)
         (try clear BK769)
         (try clear BK770)
         (try clear HB)
         generalize (((((((((((((((w27.setCell ⟨gb768, 0, none⟩ (.int .i64 t771)).setCell ⟨gb768, 1, none⟩ (.string t772)).setCell ⟨gb768, 2, none⟩ (.string t773)).setCell ⟨gb768, 3, none⟩ (.slice Ao31 t774.length co31)).setCell ⟨gb768, 4, none⟩ (.slice Ao33 t777.length co33)).setCell ⟨gb769, 0, none⟩ (.int .i64 t780)).setCell ⟨gb769, 1, none⟩ (.string t781)).setCell ⟨gb769, 2, none⟩ (.string t782)).setCell ⟨gb769, 3, none⟩ (.slice Ao38 t783.length co38)).setCell ⟨gb769, 4, none⟩ (.slice Ao40 t786.length co40)).setCell ⟨gb770, 0, none⟩ (.int .i64 t789)).setCell ⟨gb770, 1, none⟩ (.string t790)).setCell ⟨gb770, 2, none⟩ (.string t791)).setCell ⟨gb770, 3, none⟩ (.slice Ao45 t792.length co45)).setCell ⟨gb770, 4, none⟩ (.slice Ao47 t795.length co47)) = w49 at n0_ n1_ n2_ n3_ n4_ n5_ n6_ n7_ n8_ n9_ ⊢
         have HO776 := n0_
         have HO779 := n1_
         have HO785 := n2_
         have HO788 := n3_
         have HO794 := n4_
         have HO797 := n5_
         have BK768 := n6_
         have BK769 := n7_
         have BK770 := n8_
         have HB := n9_
         clear n0_ n1_ n2_ n3_ n4_ n5_ n6_ n7_ n8_ n9_
         have n0_ := am_ (Kd.R_drew HO776.out)
         have n1_ := am_ (Kd.R_drew HO779.out)
         have n2_ := am_ (Kd.R_drew HO785.out)
         have n3_ := am_ (Kd.R_drew HO788.out)
         have n4_ := am_ (Kd.R_drew HO794.out)
         have n5_ := am_ (Kd.R_drew HO797.out)
         have n6_ := am_ (blk_drew BK768.out)
         have n7_ := am_ (blk_drew BK769.out)
         have n8_ := am_ (blk_drew BK770.out)
         have n9_ := am_ (below_drew1 HB.out)
         clear HO776 HO779 HO785 HO788 HO794 HO797 BK768 BK769 BK770 HB
         have HO776 := n0_
         have HO779 := n1_
         have HO785 := n2_
         have HO788 := n3_
         have HO794 := n4_
         have HO797 := n5_
         have BK768 := n6_
         have BK769 := n7_
         have BK770 := n8_
         have HB := n9_
         clear n0_ n1_ n2_ n3_ n4_ n5_ n6_ n7_ n8_ n9_
         refine start_ (n := 12) (S := fun w' => w'.cell? ⟨gb768, 0, none⟩ = some (.int .i64 t771) ∧ w'.cell? ⟨gb768, 1, none⟩ = some (.string t772) ∧ w'.cell? ⟨gb768, 2, none⟩ = some (.string t773) ∧ w'.cell? ⟨gb768, 3, none⟩ = some (.slice Ao31 t774.length co31) ∧ w'.cell? ⟨gb768, 4, none⟩ = some (.slice Ao33 t777.length co33) ∧ w'.cell? ⟨gb769, 0, none⟩ = some (.int .i64 t780) ∧ w'.cell? ⟨gb769, 1, none⟩ = some (.string t781) ∧ w'.cell? ⟨gb769, 2, none⟩ = some (.string t782) ∧ w'.cell? ⟨gb769, 3, none⟩ = some (.slice Ao38 t783.length co38) ∧ w'.cell? ⟨gb769, 4, none⟩ = some (.slice Ao40 t786.length co40) ∧ w'.cell? ⟨gb770, 0, none⟩ = some (.int .i64 t789) ∧ w'.cell? ⟨gb770, 1, none⟩ = some (.string t790) ∧ w'.cell? ⟨gb770, 2, none⟩ = some (.string t791) ∧ w'.cell? ⟨gb770, 3, none⟩ = some (.slice Ao45 t792.length co45) ∧ w'.cell? ⟨gb770, 4, none⟩ = some (.slice Ao47 t795.length co47)) (ds := []) #[false, false, false, false, false, false, false, false, false, false, false, false] kr_ rfl rfl ⟨(blk_cell BK768.out 0).trans rfl, (blk_cell BK768.out 1).trans rfl, (blk_cell BK768.out 2).trans rfl, (blk_cell BK768.out 3).trans rfl, (blk_cell BK768.out 4).trans rfl, (blk_cell BK769.out 0).trans rfl, (blk_cell BK769.out 1).trans rfl, (blk_cell BK769.out 2).trans rfl, (blk_cell BK769.out 3).trans rfl, (blk_cell BK769.out 4).trans rfl, (blk_cell BK770.out 0).trans rfl, (blk_cell BK770.out 1).trans rfl, (blk_cell BK770.out 2).trans rfl, (blk_cell BK770.out 3).trans rfl, (blk_cell BK770.out 4).trans rfl⟩ (fun hHeld => ?_); refine with_tabW tolllaw06_RuleRanks_g2.tab2 tolllaw06_RuleRanks_g2.bits2 (fun HT_ HW_ => ?_)
         generalize w49.drew = w50 at HO776 HO779 HO785 HO788 HO794 HO797 BK768 BK769 BK770 HB hHeld ⊢
         refine take_ (i := 0) (N := some 16) (v := ?_) (a' := ?_) #[true, false, false, false, false, false, false, false, false, false, false, false] rfl rfl (take_ofW HT_.out HW_.out kr_) (fun _ _ _ h => h) (Or.inl ⟨by rfl, ?_⟩) hHeld ?_ ?_
         rotate_left
         ·rintro w' ⟨s0, s1, s2, s3, s4, s5, s6, s7, s8, s9, s10, s11, s12, s13, s14⟩
          go_simp
          with_reducible rfl
         rotate_left
         ·simp only [Act.put, sx_, s0_, s1_, i64_w, i32_w]
          rfl
         refine take_ (i := 1) (N := some 17) (v := ?_) (a' := ?_) #[true, true, false, false, false, false, false, false, false, false, false, false] rfl rfl (take_ofW HT_.out HW_.out kr_) (fun _ _ _ h => h) (Or.inl ⟨by rfl, ?_⟩) hHeld ?_ ?_
         rotate_left
         ·rintro w' ⟨s0, s1, s2, s3, s4, s5, s6, s7, s8, s9, s10, s11, s12, s13, s14⟩
          go_simp
          with_reducible rfl
         rotate_left
         ·simp only [Act.put, sx_, s0_, s1_, i64_w, i32_w]
          rfl
         refine take_ (i := 3) (N := some 19) (v := ?_) (a' := ?_) #[true, true, false, true, false, false, false, false, false, false, false, false] rfl rfl (take_ofW HT_.out HW_.out kr_) (fun _ _ _ h => h) (Or.inl ⟨by rfl, ?_⟩) hHeld ?_ ?_
         rotate_left
         ·rintro w' ⟨s0, s1, s2, s3, s4, s5, s6, s7, s8, s9, s10, s11, s12, s13, s14⟩
          go_simp
          with_reducible rfl
         rotate_left
         ·simp only [Act.put, sx_, s0_, s1_, i64_w, i32_w]
          rfl
         refine take_ (i := 4) (N := some 20) (v := ?_) (a' := ?_) #[true, true, false, true, true, false, false, false, false, false, false, false] rfl rfl (take_ofW HT_.out HW_.out kr_) (fun _ _ _ h => h) (Or.inl ⟨by rfl, ?_⟩) hHeld ?_ ?_
         rotate_left
         ·rintro w' ⟨s0, s1, s2, s3, s4, s5, s6, s7, s8, s9, s10, s11, s12, s13, s14⟩
          go_simp
          with_reducible rfl
         rotate_left
         ·simp only [Act.put, sx_, s0_, s1_, i64_w, i32_w]
          rfl
         refine take_ (i := 6) (N := some 22) (v := ?_) (a' := ?_) #[true, true, false, true, true, false, true, false, false, false, false, false] rfl rfl (take_ofW HT_.out HW_.out kr_) (fun _ _ _ h => h) (Or.inl ⟨by rfl, ?_⟩) hHeld ?_ ?_
         rotate_left
         ·rintro w' ⟨s0, s1, s2, s3, s4, s5, s6, s7, s8, s9, s10, s11, s12, s13, s14⟩
          go_simp
          with_reducible rfl
         rotate_left
         ·simp only [Act.put, sx_, s0_, s1_, i64_w, i32_w]
          rfl
         refine take_ (i := 7) (N := some 23) (v := ?_) (a' := ?_) #[true, true, false, true, true, false, true, true, false, false, false, false] rfl rfl (take_ofW HT_.out HW_.out kr_) (fun _ _ _ h => h) (Or.inl ⟨by rfl, ?_⟩) hHeld ?_ ?_
         rotate_left
         ·rintro w' ⟨s0, s1, s2, s3, s4, s5, s6, s7, s8, s9, s10, s11, s12, s13, s14⟩
          go_simp
          with_reducible rfl
         rotate_left
         ·simp only [Act.put, sx_, s0_, s1_, i64_w, i32_w]
          rfl
         refine one_ (i := 2) (N := some 18) #[true, true, true, true, true, false, true, true, false, false, false, false] rfl rfl (one_of HT_.out kr_) (by decide) (fun K hK => ?_)
         refine goes_ Tryd.func19 kr_ rfl #[.agg #[.int .i64 t771, .string t772, .string t773, .slice Ao31 t774.length co31, .slice Ao33 t777.length co33], .agg #[.int .i64 t780, .string t781, .string t782, .slice Ao38 t783.length co38, .slice Ao40 t786.length co40]] (by rfl) rfl rfl rl_ ?_
         with_reducible refine (rule_Order.calls t771 t772 t773 _ _ t774 _ _ t777 t780 t781 t782 _ _ t783 _ _ t786 t798 _ ?side1 ?side2 ?side3 ?side4 ?side5 ?side6 ?side7 ?side8 A7.out).mono ?_
         (case side1 => exact C_ (Kd.R_reads' HO776.out).2.2)
         (case side2 => exact (Kd.R_reads' HO776.out).2.1)
         (case side3 => exact C_ (Kd.R_reads' HO779.out).2.2)
         (case side4 => exact (Kd.R_reads' HO779.out).2.1)
         (case side5 => exact C_ (Kd.R_reads' HO785.out).2.2)
         (case side6 => exact (Kd.R_reads' HO785.out).2.1)
         (case side7 => exact C_ (Kd.R_reads' HO788.out).2.2)
         (case side8 => exact (Kd.R_reads' HO788.out).2.1)
         rintro e w51 ⟨rfl, hb⟩
         refine ⟨_, rfl, ?_⟩
         have n0_ := am_ (Kd.R_below (R_ HO776.out) hb)
         have n1_ := am_ (Kd.R_below (R_ HO779.out) hb)
         have n2_ := am_ (Kd.R_below (R_ HO785.out) hb)
         have n3_ := am_ (Kd.R_below (R_ HO788.out) hb)
         have n4_ := am_ (Kd.R_below (R_ HO794.out) hb)
         have n5_ := am_ (Kd.R_below (R_ HO797.out) hb)
         have n6_ := am_ (blk_below (g := gb768) (o := .cells #[.int .i64 t771, .string t772, .string t773, .slice Ao31 t774.length co31, .slice Ao33 t777.length co33] 26 (0, 0)) (blk_ BK768.out) hb)
         have n7_ := am_ (blk_below (g := gb769) (o := .cells #[.int .i64 t780, .string t781, .string t782, .slice Ao38 t783.length co38, .slice Ao40 t786.length co40] 26 (0, 0)) (blk_ BK769.out) hb)
         have n8_ := am_ (blk_below (g := gb770) (o := .cells #[.int .i64 t789, .string t790, .string t791, .slice Ao45 t792.length co45, .slice Ao47 t795.length co47] 26 (0, 0)) (blk_ BK770.out) hb)
         have n9_ := am_ (below_step (bel_ HB.out) hb)
         clear HO776 HO779 HO785 HO788 HO794 HO797 BK768 BK769 BK770 HB
         have HO776 := n0_
         have HO779 := n1_
         have HO785 := n2_
         have HO788 := n3_
         have HO794 := n4_
         have HO797 := n5_
         have BK768 := n6_
         have BK769 := n7_
         have BK770 := n8_
         have HB := n9_
         clear n0_ n1_ n2_ n3_ n4_ n5_ n6_ n7_ n8_ n9_
         (try clear hb)
         (try clear hb2)
         (try clear hk)
         (try clear hi)
         refine hK.out _ _ ⟨(blk_cell BK768.out 0).trans rfl, (blk_cell BK768.out 1).trans rfl, (blk_cell BK768.out 2).trans rfl, (blk_cell BK768.out 3).trans rfl, (blk_cell BK768.out 4).trans rfl, (blk_cell BK769.out 0).trans rfl, (blk_cell BK769.out 1).trans rfl, (blk_cell BK769.out 2).trans rfl, (blk_cell BK769.out 3).trans rfl, (blk_cell BK769.out 4).trans rfl, (blk_cell BK770.out 0).trans rfl, (blk_cell BK770.out 1).trans rfl, (blk_cell BK770.out 2).trans rfl, (blk_cell BK770.out 3).trans rfl, (blk_cell BK770.out 4).trans rfl⟩ (fun hHeld => ?_)
         clear hK K
         refine norm_ (a' := ?_) ?_ ?_
         rotate_left
         ·show Act.put _ (some 18) _ = _
          simp only [Act.put, sx_, s0_, s1_, i64_w, i32_w]
          rfl
         refine one_ (i := 5) (N := some 21) #[true, true, true, true, true, true, true, true, false, false, false, false] rfl rfl (one_of HT_.out kr_) (by decide) (fun K hK => ?_)
         refine goes_ Tryd.func19 kr_ rfl #[.agg #[.int .i64 t780, .string t781, .string t782, .slice Ao38 t783.length co38, .slice Ao40 t786.length co40], .agg #[.int .i64 t789, .string t790, .string t791, .slice Ao45 t792.length co45, .slice Ao47 t795.length co47]] (by rfl) rfl rfl rl_ ?_
         with_reducible refine (rule_Order.calls t780 t781 t782 _ _ t783 _ _ t786 t789 t790 t791 _ _ t792 _ _ t795 t799 _ ?side1 ?side2 ?side3 ?side4 ?side5 ?side6 ?side7 ?side8 A8.out).mono ?_
         (case side1 => exact C_ (Kd.R_reads' HO785.out).2.2)
         (case side2 => exact (Kd.R_reads' HO785.out).2.1)
         (case side3 => exact C_ (Kd.R_reads' HO788.out).2.2)
         (case side4 => exact (Kd.R_reads' HO788.out).2.1)
         (case side5 => exact C_ (Kd.R_reads' HO794.out).2.2)
         (case side6 => exact (Kd.R_reads' HO794.out).2.1)
         (case side7 => exact C_ (Kd.R_reads' HO797.out).2.2)
         (case side8 => exact (Kd.R_reads' HO797.out).2.1)
         rintro e w52 ⟨rfl, hb⟩
         refine ⟨_, rfl, ?_⟩
         have n0_ := am_ (Kd.R_below (R_ HO776.out) hb)
         have n1_ := am_ (Kd.R_below (R_ HO779.out) hb)
         have n2_ := am_ (Kd.R_below (R_ HO785.out) hb)
         have n3_ := am_ (Kd.R_below (R_ HO788.out) hb)
         have n4_ := am_ (Kd.R_below (R_ HO794.out) hb)
         have n5_ := am_ (Kd.R_below (R_ HO797.out) hb)
         have n6_ := am_ (blk_below (g := gb768) (o := .cells #[.int .i64 t771, .string t772, .string t773, .slice Ao31 t774.length co31, .slice Ao33 t777.length co33] 26 (0, 0)) (blk_ BK768.out) hb)
         have n7_ := am_ (blk_below (g := gb769) (o := .cells #[.int .i64 t780, .string t781, .string t782, .slice Ao38 t783.length co38, .slice Ao40 t786.length co40] 26 (0, 0)) (blk_ BK769.out) hb)
         have n8_ := am_ (blk_below (g := gb770) (o := .cells #[.int .i64 t789, .string t790, .string t791, .slice Ao45 t792.length co45, .slice Ao47 t795.length co47] 26 (0, 0)) (blk_ BK770.out) hb)
         have n9_ := am_ (below_step (bel_ HB.out) hb)
         clear HO776 HO779 HO785 HO788 HO794 HO797 BK768 BK769 BK770 HB
         have HO776 := n0_
         have HO779 := n1_
         have HO785 := n2_
         have HO788 := n3_
         have HO794 := n4_
         have HO797 := n5_
         have BK768 := n6_
         have BK769 := n7_
         have BK770 := n8_
         have HB := n9_
         clear n0_ n1_ n2_ n3_ n4_ n5_ n6_ n7_ n8_ n9_
         (try clear hb)
         (try clear hb2)
         (try clear hk)
         (try clear hi)
         refine hK.out _ _ ⟨(blk_cell BK768.out 0).trans rfl, (blk_cell BK768.out 1).trans rfl, (blk_cell BK768.out 2).trans rfl, (blk_cell BK768.out 3).trans rfl, (blk_cell BK768.out 4).trans rfl, (blk_cell BK769.out 0).trans rfl, (blk_cell BK769.out 1).trans rfl, (blk_cell BK769.out 2).trans rfl, (blk_cell BK769.out 3).trans rfl, (blk_cell BK769.out 4).trans rfl, (blk_cell BK770.out 0).trans rfl, (blk_cell BK770.out 1).trans rfl, (blk_cell BK770.out 2).trans rfl, (blk_cell BK770.out 3).trans rfl, (blk_cell BK770.out 4).trans rfl⟩ (fun hHeld => ?_)
         clear hK K
         refine norm_ (a' := ?_) ?_ ?_
         rotate_left
         ·show Act.put _ (some 21) _ = _
          simp only [Act.put, sx_, s0_, s1_, i64_w, i32_w]
          rfl
         refine one_ (i := 8) (N := some 24) #[true, true, true, true, true, true, true, true, true, false, false, false] rfl rfl (one_of HT_.out kr_) (by decide) (fun K hK => ?_)
         refine goes_ Tryd.func19 kr_ rfl #[.agg #[.int .i64 t771, .string t772, .string t773, .slice Ao31 t774.length co31, .slice Ao33 t777.length co33], .agg #[.int .i64 t789, .string t790, .string t791, .slice Ao45 t792.length co45, .slice Ao47 t795.length co47]] (by rfl) rfl rfl rl_ ?_
         with_reducible refine (rule_Order.calls t771 t772 t773 _ _ t774 _ _ t777 t789 t790 t791 _ _ t792 _ _ t795 t800 _ ?side1 ?side2 ?side3 ?side4 ?side5 ?side6 ?side7 ?side8 A9.out).mono ?_
         (case side1 => exact C_ (Kd.R_reads' HO776.out).2.2)
         (case side2 => exact (Kd.R_reads' HO776.out).2.1)
         (case side3 => exact C_ (Kd.R_reads' HO779.out).2.2)
         (case side4 => exact (Kd.R_reads' HO779.out).2.1)
         (case side5 => exact C_ (Kd.R_reads' HO794.out).2.2)
         (case side6 => exact (Kd.R_reads' HO794.out).2.1)
         (case side7 => exact C_ (Kd.R_reads' HO797.out).2.2)
         (case side8 => exact (Kd.R_reads' HO797.out).2.1)
         rintro e w53 ⟨rfl, hb⟩
         refine ⟨_, rfl, ?_⟩
         have n0_ := am_ (Kd.R_below (R_ HO776.out) hb)
         have n1_ := am_ (Kd.R_below (R_ HO779.out) hb)
         have n2_ := am_ (Kd.R_below (R_ HO785.out) hb)
         have n3_ := am_ (Kd.R_below (R_ HO788.out) hb)
         have n4_ := am_ (Kd.R_below (R_ HO794.out) hb)
         have n5_ := am_ (Kd.R_below (R_ HO797.out) hb)
         have n6_ := am_ (blk_below (g := gb768) (o := .cells #[.int .i64 t771, .string t772, .string t773, .slice Ao31 t774.length co31, .slice Ao33 t777.length co33] 26 (0, 0)) (blk_ BK768.out) hb)
         have n7_ := am_ (blk_below (g := gb769) (o := .cells #[.int .i64 t780, .string t781, .string t782, .slice Ao38 t783.length co38, .slice Ao40 t786.length co40] 26 (0, 0)) (blk_ BK769.out) hb)
         have n8_ := am_ (blk_below (g := gb770) (o := .cells #[.int .i64 t789, .string t790, .string t791, .slice Ao45 t792.length co45, .slice Ao47 t795.length co47] 26 (0, 0)) (blk_ BK770.out) hb)
         have n9_ := am_ (below_step (bel_ HB.out) hb)
         clear HO776 HO779 HO785 HO788 HO794 HO797 BK768 BK769 BK770 HB
         have HO776 := n0_
         have HO779 := n1_
         have HO785 := n2_
         have HO788 := n3_
         have HO794 := n4_
         have HO797 := n5_
         have BK768 := n6_
         have BK769 := n7_
         have BK770 := n8_
         have HB := n9_
         clear n0_ n1_ n2_ n3_ n4_ n5_ n6_ n7_ n8_ n9_
         (try clear hb)
         (try clear hb2)
         (try clear hk)
         (try clear hi)
         refine hK.out _ _ ⟨(blk_cell BK768.out 0).trans rfl, (blk_cell BK768.out 1).trans rfl, (blk_cell BK768.out 2).trans rfl, (blk_cell BK768.out 3).trans rfl, (blk_cell BK768.out 4).trans rfl, (blk_cell BK769.out 0).trans rfl, (blk_cell BK769.out 1).trans rfl, (blk_cell BK769.out 2).trans rfl, (blk_cell BK769.out 3).trans rfl, (blk_cell BK769.out 4).trans rfl, (blk_cell BK770.out 0).trans rfl, (blk_cell BK770.out 1).trans rfl, (blk_cell BK770.out 2).trans rfl, (blk_cell BK770.out 3).trans rfl, (blk_cell BK770.out 4).trans rfl⟩ (fun hHeld => ?_)
         clear hK K
         refine norm_ (a' := ?_) ?_ ?_
         rotate_left
         ·show Act.put _ (some 24) _ = _
          simp only [Act.put, sx_, s0_, s1_, i64_w, i32_w]
          rfl
         refine pure_ (i := 9) (N := some 7) (v := ?_) (a' := ?_) #[true, true, true, true, true, true, true, true, true, true, false, false] rfl rfl (any_of HT_.out kr_) (fun _ _ _ h => h) (Or.inl ⟨by rfl, ?_⟩) ?_ ?_
         rotate_left
         ·intro w'
          go_simp
          with_reducible rfl
         rotate_left
         ·simp only [Act.put, sx_, s0_, s1_, i64_w, i32_w]
          rfl
         refine pure_ (i := 10) (N := some 8) (v := ?_) (a' := ?_) #[true, true, true, true, true, true, true, true, true, true, true, false] rfl rfl (any_of HT_.out kr_) (fun _ _ _ h => h) (Or.inl ⟨by rfl, ?_⟩) ?_ ?_
         rotate_left
         ·intro w'
          go_simp
          with_reducible rfl
         rotate_left
         ·simp only [Act.put, sx_, s0_, s1_, i64_w, i32_w]
          rfl
         refine pure_ (i := 11) (N := some 9) (v := ?_) (a' := ?_) #[true, true, true, true, true, true, true, true, true, true, true, true] rfl rfl (any_of HT_.out kr_) (fun _ _ _ h => h) (Or.inl ⟨by rfl, ?_⟩) ?_ ?_
         rotate_left
         ·intro w'
          go_simp
          with_reducible rfl
         rotate_left
         ·simp only [Act.put, sx_, s0_, s1_, i64_w, i32_w]
          rfl
         refine done_ (done_of HT_.out kr_) ?_
         have hnb54 := NB769_768.out
         have hnc54 := NB768_769.out
         have hnb55 := NB769_770.out
         have hnc55 := NB770_769.out
         have hcz56_0 : w53.cell? ⟨gb769, 0, none⟩ = some (.int .i64 t780) := (blk_cell BK769.out 0).trans rfl
         have hcz56_1 : w53.cell? ⟨gb769, 1, none⟩ = some (.string t781) := (blk_cell BK769.out 1).trans rfl
         have hcz56_2 : w53.cell? ⟨gb769, 2, none⟩ = some (.string t782) := (blk_cell BK769.out 2).trans rfl
         have hcz56_3 : w53.cell? ⟨gb769, 3, none⟩ = some (.slice Ao38 t783.length co38) := (blk_cell BK769.out 3).trans rfl
         have hcz56_4 : w53.cell? ⟨gb769, 4, none⟩ = some (.slice Ao40 t786.length co40) := (blk_cell BK769.out 4).trans rfl
         have hfz56_0 := blk_frozen BK769.out 0
         have hfz56_1 := blk_frozen BK769.out 1
         have hfz56_2 := blk_frozen BK769.out 2
         have hfz56_3 := blk_frozen BK769.out 3
         have hfz56_4 := blk_frozen BK769.out 4
         have hnb57 := NB768_770.out
         have hnc57 := NB770_768.out
         have hcz58_0 : w53.cell? ⟨gb768, 0, none⟩ = some (.int .i64 t771) := (blk_cell BK768.out 0).trans rfl
         have hcz58_1 : w53.cell? ⟨gb768, 1, none⟩ = some (.string t772) := (blk_cell BK768.out 1).trans rfl
         have hcz58_2 : w53.cell? ⟨gb768, 2, none⟩ = some (.string t773) := (blk_cell BK768.out 2).trans rfl
         have hcz58_3 : w53.cell? ⟨gb768, 3, none⟩ = some (.slice Ao31 t774.length co31) := (blk_cell BK768.out 3).trans rfl
         have hcz58_4 : w53.cell? ⟨gb768, 4, none⟩ = some (.slice Ao33 t777.length co33) := (blk_cell BK768.out 4).trans rfl
         have hfz58_0 := blk_frozen BK768.out 0
         have hfz58_1 := blk_frozen BK768.out 1
         have hfz58_2 := blk_frozen BK768.out 2
         have hfz58_3 := blk_frozen BK768.out 3
         have hfz58_4 := blk_frozen BK768.out 4
         try go_wp2_with (first | ((with_reducible refine gate_callee (f := 19) rfl ?_); refine goesL_ (some 27) rfl rfl Tryd.func19 kr_ rfl #[.agg #[.int .i64 t780, .string t781, .string t782, .slice Ao38 t783.length co38, .slice Ao40 t786.length co40], .agg #[.int .i64 t771, .string t772, .string t773, .slice Ao31 t774.length co31, .slice Ao33 t777.length co33]] rfl rl_ ?_; (with_reducible refine (rule_Order.calls t780 t781 t782 _ _ t783 _ _ t786 t771 t772 t773 _ _ t774 _ _ t777 t801 _ ?side1 ?side2 ?side3 ?side4 ?side5 ?side6 ?side7 ?side8 A10.out).mono ?_); (case side1 => exact C_ (Kd.R_reads' HO785.out).2.2); (case side2 => exact (Kd.R_reads' HO785.out).2.1); (case side3 => exact C_ (Kd.R_reads' HO788.out).2.2); (case side4 => exact (Kd.R_reads' HO788.out).2.1); (case side5 => exact C_ (Kd.R_reads' HO776.out).2.2); (case side6 => exact (Kd.R_reads' HO776.out).2.1); (case side7 => exact C_ (Kd.R_reads' HO779.out).2.2); (case side8 => exact (Kd.R_reads' HO779.out).2.1); rintro e w59 ⟨rfl, hb⟩; refine ⟨_, rfl, ?_⟩; have n0_ := am_ (Kd.R_below (R_ HO776.out) hb); have n1_ := am_ (Kd.R_below (R_ HO779.out) hb); have n2_ := am_ (Kd.R_below (R_ HO785.out) hb); have n3_ := am_ (Kd.R_below (R_ HO788.out) hb); have n4_ := am_ (Kd.R_below (R_ HO794.out) hb); have n5_ := am_ (Kd.R_below (R_ HO797.out) hb); have n6_ := am_ (blk_below (g := gb768) (o := .cells #[.int .i64 t771, .string t772, .string t773, .slice Ao31 t774.length co31, .slice Ao33 t777.length co33] 26 (0, 0)) (blk_ BK768.out) hb); have n7_ := am_ (blk_below (g := gb769) (o := .cells #[.int .i64 t780, .string t781, .string t782, .slice Ao38 t783.length co38, .slice Ao40 t786.length co40] 26 (0, 0)) (blk_ BK769.out) hb); have n8_ := am_ (blk_below (g := gb770) (o := .cells #[.int .i64 t789, .string t790, .string t791, .slice Ao45 t792.length co45, .slice Ao47 t795.length co47] 26 (0, 0)) (blk_ BK770.out) hb); have n9_ := am_ (below_step (bel_ HB.out) hb); clear HO776 HO779 HO785 HO788 HO794 HO797 BK768 BK769 BK770 HB; have HO776 := n0_; have HO779 := n1_; have HO785 := n2_; have HO788 := n3_; have HO794 := n4_; have HO797 := n5_; have BK768 := n6_; have BK769 := n7_; have BK770 := n8_; have HB := n9_; clear n0_ n1_ n2_ n3_ n4_ n5_ n6_ n7_ n8_ n9_; (try clear hb); (try clear hb2); (try clear hk); (try clear hi); have hcz60_0 : w59.cell? ⟨gb768, 0, none⟩ = some (.int .i64 t771) := (blk_cell BK768.out 0).trans rfl; have hcz60_1 : w59.cell? ⟨gb768, 1, none⟩ = some (.string t772) := (blk_cell BK768.out 1).trans rfl; have hcz60_2 : w59.cell? ⟨gb768, 2, none⟩ = some (.string t773) := (blk_cell BK768.out 2).trans rfl; have hcz60_3 : w59.cell? ⟨gb768, 3, none⟩ = some (.slice Ao31 t774.length co31) := (blk_cell BK768.out 3).trans rfl; have hcz60_4 : w59.cell? ⟨gb768, 4, none⟩ = some (.slice Ao33 t777.length co33) := (blk_cell BK768.out 4).trans rfl; have hfz60_0 := blk_frozen BK768.out 0; have hfz60_1 := blk_frozen BK768.out 1; have hfz60_2 := blk_frozen BK768.out 2; have hfz60_3 := blk_frozen BK768.out 3; have hfz60_4 := blk_frozen BK768.out 4) | (go_at_call 19; (with_reducible refine (rule_Order.calls t771 t772 t773 _ _ t774 _ _ t777 t771 t772 t773 _ _ t774 _ _ t777 t802 _ ?side1 ?side2 ?side3 ?side4 ?side5 ?side6 ?side7 ?side8 A12.out).mono ?_); (case side1 => exact C_ (Kd.R_reads' HO776.out).2.2); (case side2 => exact (Kd.R_reads' HO776.out).2.1); (case side3 => exact C_ (Kd.R_reads' HO779.out).2.2); (case side4 => exact (Kd.R_reads' HO779.out).2.1); (case side5 => exact C_ (Kd.R_reads' HO776.out).2.2); (case side6 => exact (Kd.R_reads' HO776.out).2.1); (case side7 => exact C_ (Kd.R_reads' HO779.out).2.2); (case side8 => exact (Kd.R_reads' HO779.out).2.1); rintro e w61 ⟨rfl, hb⟩; have n0_ := am_ (Kd.R_below (R_ HO776.out) hb); have n1_ := am_ (Kd.R_below (R_ HO779.out) hb); have n2_ := am_ (Kd.R_below (R_ HO785.out) hb); have n3_ := am_ (Kd.R_below (R_ HO788.out) hb); have n4_ := am_ (Kd.R_below (R_ HO794.out) hb); have n5_ := am_ (Kd.R_below (R_ HO797.out) hb); have n6_ := am_ (blk_below (g := gb768) (o := .cells #[.int .i64 t771, .string t772, .string t773, .slice Ao31 t774.length co31, .slice Ao33 t777.length co33] 26 (0, 0)) (blk_ BK768.out) hb); have n7_ := am_ (blk_below (g := gb769) (o := .cells #[.int .i64 t780, .string t781, .string t782, .slice Ao38 t783.length co38, .slice Ao40 t786.length co40] 26 (0, 0)) (blk_ BK769.out) hb); have n8_ := am_ (blk_below (g := gb770) (o := .cells #[.int .i64 t789, .string t790, .string t791, .slice Ao45 t792.length co45, .slice Ao47 t795.length co47] 26 (0, 0)) (blk_ BK770.out) hb); have n9_ := am_ (below_step (bel_ HB.out) hb); clear HO776 HO779 HO785 HO788 HO794 HO797 BK768 BK769 BK770 HB; have HO776 := n0_; have HO779 := n1_; have HO785 := n2_; have HO788 := n3_; have HO794 := n4_; have HO797 := n5_; have BK768 := n6_; have BK769 := n7_; have BK770 := n8_; have HB := n9_; clear n0_ n1_ n2_ n3_ n4_ n5_ n6_ n7_ n8_ n9_; (try clear hb); (try clear hb2); (try clear hk); (try clear hi)) | ((with_reducible refine gate_callee (f := 18) rfl ?_); refine goesL_ (some 73) rfl rfl Tryd.func18 kr_ rfl #[] rfl rl_ ?_; (with_reducible refine (tolllaw06_awake.calls  t807 _ A20.out).mono ?_); rintro e w62 ⟨rfl, hb⟩; refine ⟨_, rfl, ?_⟩; have n0_ := am_ (Kd.R_below (R_ HO776.out) hb); have n1_ := am_ (Kd.R_below (R_ HO779.out) hb); have n2_ := am_ (Kd.R_below (R_ HO785.out) hb); have n3_ := am_ (Kd.R_below (R_ HO788.out) hb); have n4_ := am_ (Kd.R_below (R_ HO794.out) hb); have n5_ := am_ (Kd.R_below (R_ HO797.out) hb); have n6_ := am_ (blk_below (g := gb768) (o := .cells #[.int .i64 t771, .string t772, .string t773, .slice Ao31 t774.length co31, .slice Ao33 t777.length co33] 26 (0, 0)) (blk_ BK768.out) hb); have n7_ := am_ (blk_below (g := gb769) (o := .cells #[.int .i64 t780, .string t781, .string t782, .slice Ao38 t783.length co38, .slice Ao40 t786.length co40] 26 (0, 0)) (blk_ BK769.out) hb); have n8_ := am_ (blk_below (g := gb770) (o := .cells #[.int .i64 t789, .string t790, .string t791, .slice Ao45 t792.length co45, .slice Ao47 t795.length co47] 26 (0, 0)) (blk_ BK770.out) hb); have n9_ := am_ (below_step (bel_ HB.out) hb); clear HO776 HO779 HO785 HO788 HO794 HO797 BK768 BK769 BK770 HB; have HO776 := n0_; have HO779 := n1_; have HO785 := n2_; have HO788 := n3_; have HO794 := n4_; have HO797 := n5_; have BK768 := n6_; have BK769 := n7_; have BK770 := n8_; have HB := n9_; clear n0_ n1_ n2_ n3_ n4_ n5_ n6_ n7_ n8_ n9_; (try clear hb); (try clear hb2); (try clear hk); (try clear hi)))
         go_ret
         exact ⟨fi_, bel_ HB.out⟩
       ·rw [if_neg c18] at H
        exact absurd H (by simp)
    ·rw [if_neg c15] at H
     exact absurd H (by simp)
   ·rw [if_neg c14] at H
    exact absurd H (by simp)
  ·rw [if_neg c13] at H
   exact absurd H (by simp)
 ·rw [if_neg c11] at H
  exact absurd H (by simp)

end Go.Proofs.YtompldnifiieaaaDoor.P
