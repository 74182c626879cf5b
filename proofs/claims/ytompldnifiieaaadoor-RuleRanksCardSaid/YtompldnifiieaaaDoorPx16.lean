-- written by wip/tool/hprint.py of this repo: the kit's print, with contracts by hand joined; Lean checks it.
import Derived.Test.YtompldnifiieaaaDoorPx0
import Derived.Test.YtompldnifiieaaaDoorPx1
import Derived.Test.YtompldnifiieaaaDoorPx5
import Derived.Test.YtompldnifiieaaaDoorPx7
namespace Go.Proofs.YtompldnifiieaaaDoor.P
open Go.RowKit Go.Proofs.YtompldnifiieaaaDoorW.PrintWords Go.Proofs.YtompldnifiieaaaDoorW.PrintLast Go.Proofs.YtompldnifiieaaaDoorW.PrintMore
attribute [local go_sem] max2_int min2_int max_two min_two max_three min_three max_four min_four   -- for this text's walks alone
set_option linter.unusedVariables false
set_option linter.unusedSimpArgs false

/-! ### tolllaw06_RuleRanks_g1: function 4 -/
noncomputable def tolllaw06_RuleRanks_g1.f (k : Nat) (a0_0 : Int) (a0_1 : ByteArray) (a0_2 : ByteArray) (l0_3 : List (S49)) (l0_4 : List (S49)) (a1_0 : Int) (a1_1 : ByteArray) (a1_2 : ByteArray) (l1_3 : List (S49)) (l1_4 : List (S49)) (a2_0 : Int) (a2_1 : ByteArray) (a2_2 : ByteArray) (l2_3 : List (S49)) (l2_4 : List (S49)) : Option (Bool) := (tolllaw06_Few.f k a0_0 a0_1 a0_2 l0_3 l0_4).bind fun bt715 => ((tolllaw06_Few.f k a1_0 a1_1 a1_2 l1_3 l1_4).bind fun bt724 => ((tolllaw06_Few.f k a2_0 a2_1 a2_2 l2_3 l2_4).bind fun bt733 => ((rule_Order.f bt715.1 bt715.2.1 bt715.2.2.1 bt715.2.2.2.1 bt715.2.2.2.2 bt724.1 bt724.2.1 bt724.2.2.1 bt724.2.2.2.1 bt724.2.2.2.2).bind fun t742 => ((rule_Order.f bt724.1 bt724.2.1 bt724.2.2.1 bt724.2.2.2.1 bt724.2.2.2.2 bt733.1 bt733.2.1 bt733.2.2.1 bt733.2.2.2.1 bt733.2.2.2.2).bind fun t743 => ((rule_Order.f bt715.1 bt715.2.1 bt715.2.2.1 bt715.2.2.2.1 bt715.2.2.2.2 bt733.1 bt733.2.1 bt733.2.2.1 bt733.2.2.2.1 bt733.2.2.2.2).bind fun t744 => ((rule_Order.f bt724.1 bt724.2.1 bt724.2.2.1 bt724.2.2.2.1 bt724.2.2.2.2 bt715.1 bt715.2.1 bt715.2.2.1 bt715.2.2.2.1 bt715.2.2.2.2).bind fun t745 => (if t745 = (wrap64 (-t742)) then ((rule_Order.f bt715.1 bt715.2.1 bt715.2.2.1 bt715.2.2.2.1 bt715.2.2.2.2 bt715.1 bt715.2.1 bt715.2.2.1 bt715.2.2.2.1 bt715.2.2.2.2).bind fun t746 => (if t746 = 0 then (if t742 ≤ 0 then (if t743 ≤ 0 then (if t744 > 0 then (none) else (if t742 < 0 then (if t744 ≥ 0 then (none) else (if t742 = 0 then (none) else ((tolllaw06_awake.f).bind fun t749 => (some t749)))) else (if t742 = 0 then (if t743 = 0 then (if t744 = 0 then ((tolllaw06_awake.f).bind fun t750 => (some t750)) else (none)) else (none)) else (none)))) else (none)) else (none)) else (none))) else (none))))))))
theorem tolllaw06_RuleRanks_g1.mono : ∀ a0 a1 a2 a3 a4 a5 a6 a7 a8 a9 a10 a11 a12 a13 a14 k, LeO (tolllaw06_RuleRanks_g1.f k a0 a1 a2 a3 a4 a5 a6 a7 a8 a9 a10 a11 a12 a13 a14) (tolllaw06_RuleRanks_g1.f (k + 1) a0 a1 a2 a3 a4 a5 a6 a7 a8 a9 a10 a11 a12 a13 a14) := by
 intro a0 a1 a2 a3 a4 a5 a6 a7 a8 a9 a10 a11 a12 a13 a14 k
 unfold tolllaw06_RuleRanks_g1.f
 repeat' first
   | (with_reducible exact tolllaw06_Few.mono _ _ _ _ _ _)
   | (with_reducible exact LeO.refl _)
   | (with_reducible exact LeO.none _)
   | (with_reducible refine LeO.ite ?_ ?_)
   | (with_reducible refine LeO.bind ?_ (fun _ => ?_))
   | exact tolllaw06_Few.mono _ _ _ _ _ _
   | exact LeO.none _
   | refine LeO.ite ?_ ?_
   | refine LeO.bind ?_ (fun _ => ?_)
noncomputable def tolllaw06_RuleRanks_g1.T1 : Bool × List (List Nat × List Nat) := (true, [([], []), ([0], [0]), ([], []), ([2, 1], [2]), ([], []), ([4, 3], [4]), ([1, 5, 0, 1], [1]), ([3, 6, 0, 1, 2, 3, 6], [3]), ([5, 7, 0, 1, 2, 3, 4, 5, 6, 7], [5])])
noncomputable def tolllaw06_RuleRanks_g1.B1 : List Nat := [0, 1, 0, 7, 0, 31, 63, 127, 255]
theorem tolllaw06_RuleRanks_g1.tab1 : rtab .any (opsOf Tryd.f4 1) = tolllaw06_RuleRanks_g1.T1 := by kernel_rfl
theorem tolllaw06_RuleRanks_g1.bits1 : waitsOk tolllaw06_RuleRanks_g1.T1.2 tolllaw06_RuleRanks_g1.B1 = true := by kernel_rfl
noncomputable def tolllaw06_RuleRanks_g1.T2 : Bool × List (List Nat × List Nat) := (true, [([], []), ([], []), ([0, 1], [0, 1]), ([], []), ([], []), ([3, 4, 2], [3, 4]), ([], []), ([], []), ([6, 7, 5], [6, 7]), ([2, 8, 0, 1, 2], [2]), ([5, 9, 0, 1, 2, 3, 4, 5, 9], [5]), ([8, 10, 0, 1, 2, 3, 4, 5, 6, 7, 8, 9, 10], [8])])
noncomputable def tolllaw06_RuleRanks_g1.B2 : List Nat := [0, 0, 3, 0, 0, 31, 0, 0, 255, 511, 1023, 2047]
theorem tolllaw06_RuleRanks_g1.tab2 : rtab .any (opsOf Tryd.f4 2) = tolllaw06_RuleRanks_g1.T2 := by kernel_rfl
theorem tolllaw06_RuleRanks_g1.bits2 : waitsOk tolllaw06_RuleRanks_g1.T2.2 tolllaw06_RuleRanks_g1.B2 = true := by kernel_rfl
set_option maxHeartbeats 8000000 in
set_option maxRecDepth 100000 in
theorem tolllaw06_RuleRanks_g1.calls (k : Nat) (a0_0 : Int) (a0_1 : ByteArray) (a0_2 : ByteArray) (A0_3 : Option Addr) (c0_3 : Nat) (l0_3 : List (S49)) (A0_4 : Option Addr) (c0_4 : Nat) (l0_4 : List (S49)) (a1_0 : Int) (a1_1 : ByteArray) (a1_2 : ByteArray) (A1_3 : Option Addr) (c1_3 : Nat) (l1_3 : List (S49)) (A1_4 : Option Addr) (c1_4 : Nat) (l1_4 : List (S49)) (a2_0 : Int) (a2_1 : ByteArray) (a2_2 : ByteArray) (A2_3 : Option Addr) (c2_3 : Nat) (l2_3 : List (S49)) (A2_4 : Option Addr) (c2_4 : Nat) (l2_4 : List (S49)) (r : Bool) (w : World) (hr0_3 : Kd.C k49 w A0_3 l0_3.length l0_3) (hc0_3 : l0_3.length ≤ c0_3) (hr0_4 : Kd.C k49 w A0_4 l0_4.length l0_4) (hc0_4 : l0_4.length ≤ c0_4) (hr1_3 : Kd.C k49 w A1_3 l1_3.length l1_3) (hc1_3 : l1_3.length ≤ c1_3) (hr1_4 : Kd.C k49 w A1_4 l1_4.length l1_4) (hc1_4 : l1_4.length ≤ c1_4) (hr2_3 : Kd.C k49 w A2_3 l2_3.length l2_3) (hc2_3 : l2_3.length ≤ c2_3) (hr2_4 : Kd.C k49 w A2_4 l2_4.length l2_4) (hc2_4 : l2_4.length ≤ c2_4) (h : tolllaw06_RuleRanks_g1.f k a0_0 a0_1 a0_2 l0_3 l0_4 a1_0 a1_1 a1_2 l1_3 l1_4 a2_0 a2_1 a2_2 l2_3 l2_4 = some r) :
  Calls Tryd.prog 4 #[.agg #[.int .i64 a0_0, .string a0_1, .string a0_2, .slice A0_3 l0_3.length c0_3, .slice A0_4 l0_4.length c0_4], .agg #[.int .i64 a1_0, .string a1_1, .string a1_2, .slice A1_3 l1_3.length c1_3, .slice A1_4 l1_4.length c1_4], .agg #[.int .i64 a2_0, .string a2_1, .string a2_2, .slice A2_3 l2_3.length c2_3, .slice A2_4 l2_4.length c2_4]] w fun e w' => e = .returned (.bool r) ∧ Below w.heap.size w w' := by
 have hu26 := Tryd.underlying26
 have HR0_3 := Aside0.mk hr0_3
 have HC0_3 := Aside0.mk hc0_3
 clear hr0_3 hc0_3
 have HR0_4 := Aside0.mk hr0_4
 have HC0_4 := Aside0.mk hc0_4
 clear hr0_4 hc0_4
 have HR1_3 := Aside0.mk hr1_3
 have HC1_3 := Aside0.mk hc1_3
 clear hr1_3 hc1_3
 have HR1_4 := Aside0.mk hr1_4
 have HC1_4 := Aside0.mk hc1_4
 clear hr1_4 hc1_4
 have HR2_3 := Aside0.mk hr2_3
 have HC2_3 := Aside0.mk hc2_3
 clear hr2_3 hc2_3
 have HR2_4 := Aside0.mk hr2_4
 have HC2_4 := Aside0.mk hc2_4
 clear hr2_4 hc2_4
 have HB := am_ (Below.refl w.heap.size w)
 have H : ((tolllaw06_Few.f k a0_0 a0_1 a0_2 l0_3 l0_4).bind fun bt715 => ((tolllaw06_Few.f k a1_0 a1_1 a1_2 l1_3 l1_4).bind fun bt724 => ((tolllaw06_Few.f k a2_0 a2_1 a2_2 l2_3 l2_4).bind fun bt733 => ((rule_Order.f bt715.1 bt715.2.1 bt715.2.2.1 bt715.2.2.2.1 bt715.2.2.2.2 bt724.1 bt724.2.1 bt724.2.2.1 bt724.2.2.2.1 bt724.2.2.2.2).bind fun t742 => ((rule_Order.f bt724.1 bt724.2.1 bt724.2.2.1 bt724.2.2.2.1 bt724.2.2.2.2 bt733.1 bt733.2.1 bt733.2.2.1 bt733.2.2.2.1 bt733.2.2.2.2).bind fun t743 => ((rule_Order.f bt715.1 bt715.2.1 bt715.2.2.1 bt715.2.2.2.1 bt715.2.2.2.2 bt733.1 bt733.2.1 bt733.2.2.1 bt733.2.2.2.1 bt733.2.2.2.2).bind fun t744 => ((rule_Order.f bt724.1 bt724.2.1 bt724.2.2.1 bt724.2.2.2.1 bt724.2.2.2.2 bt715.1 bt715.2.1 bt715.2.2.1 bt715.2.2.2.1 bt715.2.2.2.2).bind fun t745 => (if t745 = (wrap64 (-t742)) then ((rule_Order.f bt715.1 bt715.2.1 bt715.2.2.1 bt715.2.2.2.1 bt715.2.2.2.2 bt715.1 bt715.2.1 bt715.2.2.1 bt715.2.2.2.1 bt715.2.2.2.2).bind fun t746 => (if t746 = 0 then (if t742 ≤ 0 then (if t743 ≤ 0 then (if t744 > 0 then (none) else (if t742 < 0 then (if t744 ≥ 0 then (none) else (if t742 = 0 then (none) else ((tolllaw06_awake.f).bind fun t749 => (some t749)))) else (if t742 = 0 then (if t743 = 0 then (if t744 = 0 then ((tolllaw06_awake.f).bind fun t750 => (some t750)) else (none)) else (none)) else (none)))) else (none)) else (none)) else (none))) else (none))))))))) = some r := h
 clear h
 replace H := Option.bind_eq_some_iff.mp H
 obtain ⟨⟨t715, t716, t717, t718, t721⟩, A40, H⟩ := H
 replace H : ((tolllaw06_Few.f k a1_0 a1_1 a1_2 l1_3 l1_4).bind fun bt724 => ((tolllaw06_Few.f k a2_0 a2_1 a2_2 l2_3 l2_4).bind fun bt733 => ((rule_Order.f t715 t716 t717 t718 t721 bt724.1 bt724.2.1 bt724.2.2.1 bt724.2.2.2.1 bt724.2.2.2.2).bind fun t742 => ((rule_Order.f bt724.1 bt724.2.1 bt724.2.2.1 bt724.2.2.2.1 bt724.2.2.2.2 bt733.1 bt733.2.1 bt733.2.2.1 bt733.2.2.2.1 bt733.2.2.2.2).bind fun t743 => ((rule_Order.f t715 t716 t717 t718 t721 bt733.1 bt733.2.1 bt733.2.2.1 bt733.2.2.2.1 bt733.2.2.2.2).bind fun t744 => ((rule_Order.f bt724.1 bt724.2.1 bt724.2.2.1 bt724.2.2.2.1 bt724.2.2.2.2 t715 t716 t717 t718 t721).bind fun t745 => (if t745 = (wrap64 (-t742)) then ((rule_Order.f t715 t716 t717 t718 t721 t715 t716 t717 t718 t721).bind fun t746 => (if t746 = 0 then (if t742 ≤ 0 then (if t743 ≤ 0 then (if t744 > 0 then (none) else (if t742 < 0 then (if t744 ≥ 0 then (none) else (if t742 = 0 then (none) else ((tolllaw06_awake.f).bind fun t749 => (some t749)))) else (if t742 = 0 then (if t743 = 0 then (if t744 = 0 then ((tolllaw06_awake.f).bind fun t750 => (some t750)) else (none)) else (none)) else (none)))) else (none)) else (none)) else (none))) else (none)))))))) = some r := H
 have A4 := Aside0.mk A40
 clear A40
 replace H := Option.bind_eq_some_iff.mp H
 obtain ⟨⟨t724, t725, t726, t727, t730⟩, A50, H⟩ := H
 replace H : ((tolllaw06_Few.f k a2_0 a2_1 a2_2 l2_3 l2_4).bind fun bt733 => ((rule_Order.f t715 t716 t717 t718 t721 t724 t725 t726 t727 t730).bind fun t742 => ((rule_Order.f t724 t725 t726 t727 t730 bt733.1 bt733.2.1 bt733.2.2.1 bt733.2.2.2.1 bt733.2.2.2.2).bind fun t743 => ((rule_Order.f t715 t716 t717 t718 t721 bt733.1 bt733.2.1 bt733.2.2.1 bt733.2.2.2.1 bt733.2.2.2.2).bind fun t744 => ((rule_Order.f t724 t725 t726 t727 t730 t715 t716 t717 t718 t721).bind fun t745 => (if t745 = (wrap64 (-t742)) then ((rule_Order.f t715 t716 t717 t718 t721 t715 t716 t717 t718 t721).bind fun t746 => (if t746 = 0 then (if t742 ≤ 0 then (if t743 ≤ 0 then (if t744 > 0 then (none) else (if t742 < 0 then (if t744 ≥ 0 then (none) else (if t742 = 0 then (none) else ((tolllaw06_awake.f).bind fun t749 => (some t749)))) else (if t742 = 0 then (if t743 = 0 then (if t744 = 0 then ((tolllaw06_awake.f).bind fun t750 => (some t750)) else (none)) else (none)) else (none)))) else (none)) else (none)) else (none))) else (none))))))) = some r := H
 have A5 := Aside0.mk A50
 clear A50
 replace H := Option.bind_eq_some_iff.mp H
 obtain ⟨⟨t733, t734, t735, t736, t739⟩, A60, H⟩ := H
 replace H : ((rule_Order.f t715 t716 t717 t718 t721 t724 t725 t726 t727 t730).bind fun t742 => ((rule_Order.f t724 t725 t726 t727 t730 t733 t734 t735 t736 t739).bind fun t743 => ((rule_Order.f t715 t716 t717 t718 t721 t733 t734 t735 t736 t739).bind fun t744 => ((rule_Order.f t724 t725 t726 t727 t730 t715 t716 t717 t718 t721).bind fun t745 => (if t745 = (wrap64 (-t742)) then ((rule_Order.f t715 t716 t717 t718 t721 t715 t716 t717 t718 t721).bind fun t746 => (if t746 = 0 then (if t742 ≤ 0 then (if t743 ≤ 0 then (if t744 > 0 then (none) else (if t742 < 0 then (if t744 ≥ 0 then (none) else (if t742 = 0 then (none) else ((tolllaw06_awake.f).bind fun t749 => (some t749)))) else (if t742 = 0 then (if t743 = 0 then (if t744 = 0 then ((tolllaw06_awake.f).bind fun t750 => (some t750)) else (none)) else (none)) else (none)))) else (none)) else (none)) else (none))) else (none)))))) = some r := H
 have A6 := Aside0.mk A60
 clear A60
 replace H := Option.bind_eq_some_iff.mp H
 obtain ⟨t742, A70, H⟩ := H
 replace H : ((rule_Order.f t724 t725 t726 t727 t730 t733 t734 t735 t736 t739).bind fun t743 => ((rule_Order.f t715 t716 t717 t718 t721 t733 t734 t735 t736 t739).bind fun t744 => ((rule_Order.f t724 t725 t726 t727 t730 t715 t716 t717 t718 t721).bind fun t745 => (if t745 = (wrap64 (-t742)) then ((rule_Order.f t715 t716 t717 t718 t721 t715 t716 t717 t718 t721).bind fun t746 => (if t746 = 0 then (if t742 ≤ 0 then (if t743 ≤ 0 then (if t744 > 0 then (none) else (if t742 < 0 then (if t744 ≥ 0 then (none) else (if t742 = 0 then (none) else ((tolllaw06_awake.f).bind fun t749 => (some t749)))) else (if t742 = 0 then (if t743 = 0 then (if t744 = 0 then ((tolllaw06_awake.f).bind fun t750 => (some t750)) else (none)) else (none)) else (none)))) else (none)) else (none)) else (none))) else (none))))) = some r := H
 have A7 := Aside0.mk A70
 clear A70
 replace H := Option.bind_eq_some_iff.mp H
 obtain ⟨t743, A80, H⟩ := H
 replace H : ((rule_Order.f t715 t716 t717 t718 t721 t733 t734 t735 t736 t739).bind fun t744 => ((rule_Order.f t724 t725 t726 t727 t730 t715 t716 t717 t718 t721).bind fun t745 => (if t745 = (wrap64 (-t742)) then ((rule_Order.f t715 t716 t717 t718 t721 t715 t716 t717 t718 t721).bind fun t746 => (if t746 = 0 then (if t742 ≤ 0 then (if t743 ≤ 0 then (if t744 > 0 then (none) else (if t742 < 0 then (if t744 ≥ 0 then (none) else (if t742 = 0 then (none) else ((tolllaw06_awake.f).bind fun t749 => (some t749)))) else (if t742 = 0 then (if t743 = 0 then (if t744 = 0 then ((tolllaw06_awake.f).bind fun t750 => (some t750)) else (none)) else (none)) else (none)))) else (none)) else (none)) else (none))) else (none)))) = some r := H
 have A8 := Aside0.mk A80
 clear A80
 replace H := Option.bind_eq_some_iff.mp H
 obtain ⟨t744, A90, H⟩ := H
 replace H : ((rule_Order.f t724 t725 t726 t727 t730 t715 t716 t717 t718 t721).bind fun t745 => (if t745 = (wrap64 (-t742)) then ((rule_Order.f t715 t716 t717 t718 t721 t715 t716 t717 t718 t721).bind fun t746 => (if t746 = 0 then (if t742 ≤ 0 then (if t743 ≤ 0 then (if t744 > 0 then (none) else (if t742 < 0 then (if t744 ≥ 0 then (none) else (if t742 = 0 then (none) else ((tolllaw06_awake.f).bind fun t749 => (some t749)))) else (if t742 = 0 then (if t743 = 0 then (if t744 = 0 then ((tolllaw06_awake.f).bind fun t750 => (some t750)) else (none)) else (none)) else (none)))) else (none)) else (none)) else (none))) else (none))) = some r := H
 have A9 := Aside0.mk A90
 clear A90
 replace H := Option.bind_eq_some_iff.mp H
 obtain ⟨t745, A100, H⟩ := H
 replace H : (if t745 = (wrap64 (-t742)) then ((rule_Order.f t715 t716 t717 t718 t721 t715 t716 t717 t718 t721).bind fun t746 => (if t746 = 0 then (if t742 ≤ 0 then (if t743 ≤ 0 then (if t744 > 0 then (none) else (if t742 < 0 then (if t744 ≥ 0 then (none) else (if t742 = 0 then (none) else ((tolllaw06_awake.f).bind fun t749 => (some t749)))) else (if t742 = 0 then (if t743 = 0 then (if t744 = 0 then ((tolllaw06_awake.f).bind fun t750 => (some t750)) else (none)) else (none)) else (none)))) else (none)) else (none)) else (none))) else (none)) = some r := H
 have A10 := Aside0.mk A100
 clear A100
 by_cases c11 : t745 = (wrap64 (-t742))
 ·rw [if_pos c11] at H
  have c11b0 : (t745 == (wrap64 (-t742))) = true := beq_iff_eq.mpr c11
  have c11b1 : (t745 != (wrap64 (-t742))) = false := bne_eq_false_iff_eq.mpr c11
  clear c11
  replace H := Option.bind_eq_some_iff.mp H
  obtain ⟨t746, A120, H⟩ := H
  replace H : (if t746 = 0 then (if t742 ≤ 0 then (if t743 ≤ 0 then (if t744 > 0 then (none) else (if t742 < 0 then (if t744 ≥ 0 then (none) else (if t742 = 0 then (none) else ((tolllaw06_awake.f).bind fun t749 => (some t749)))) else (if t742 = 0 then (if t743 = 0 then (if t744 = 0 then ((tolllaw06_awake.f).bind fun t750 => (some t750)) else (none)) else (none)) else (none)))) else (none)) else (none)) else (none)) = some r := H
  have A12 := Aside0.mk A120
  clear A120
  by_cases c13 : t746 = 0
  ·rw [if_pos c13] at H
   have c13b0 : (t746 == 0) = true := beq_iff_eq.mpr c13
   have c13b1 : (t746 != 0) = false := bne_eq_false_iff_eq.mpr c13
   clear c13
   by_cases c14 : t742 ≤ 0
   ·rw [if_pos c14] at H
    have c14b0 : decide (t742 ≤ 0) = true := decide_eq_true c14
    clear c14
    by_cases c15 : t743 ≤ 0
    ·rw [if_pos c15] at H
     have c15b0 : decide (t743 ≤ 0) = true := decide_eq_true c15
     clear c15
     by_cases c16 : t744 > 0
     ·rw [if_pos c16] at H
      exact absurd H (by simp)
     ·rw [if_neg c16] at H
      have c16b0 : decide (0 < t744) = false := decide_eq_false c16
      clear c16
      by_cases c17 : t742 < 0
      ·rw [if_pos c17] at H
       have c17b0 : decide (t742 < 0) = true := decide_eq_true c17
       clear c17
       by_cases c18 : t744 ≥ 0
       ·rw [if_pos c18] at H
        exact absurd H (by simp)
       ·rw [if_neg c18] at H
        have c18b0 : decide (0 ≤ t744) = false := decide_eq_false c18
        clear c18
        by_cases c19 : t742 = 0
        ·rw [if_pos c19] at H
         exact absurd H (by simp)
        ·rw [if_neg c19] at H
         have c19b0 : (t742 == 0) = false := beq_eq_false_iff_ne.mpr c19
         have c19b1 : (t742 != 0) = true := bne_iff_ne.mpr c19
         replace H := Option.bind_eq_some_iff.mp H
         obtain ⟨t749, A200, H⟩ := H
         replace H : (some t749) = some r := H
         have A20 := Aside0.mk A200
         clear A200
         obtain rfl := Option.some.inj H
         go_enter Tryd.func4, Tryd.ntmps4
         try go_wp2_with (first | ((with_reducible refine gate_dst (N := 3) rfl ?_); refine box_event ?hg (N := 3) ?hd (cs := #[.int .i64 a0_0, .string a0_1, .string a0_2, .slice A0_3 l0_3.length c0_3, .slice A0_4 l0_4.length c0_4]) (t := 26) ?hr ?_; (case hd => rfl); (case hg => rfl); (case hr => first | (go_simp; done) | (go_simp; rfl)); intro gb712 hg w21 hbox hb; have n0_ := am_ (below_step (bel_ HB.out) hb); have n1_ := am_ (hbox); have n2_ := am_ ((by rw [hg]; exact (below_size (bel_ HB.out)) : w.heap.size ≤ gb712)); have n3_ := am_ ((by rw [hg]; exact (below_size (bel_ HB.out)) : w.heap.size ≤ gb712)); clear HB; have HB := n0_; have BK712 := n1_; have GW712 := n2_; have GE712 := n3_; clear n0_ n1_ n2_ n3_ hb hbox hg) | ((with_reducible refine gate_dst (N := 4) rfl ?_); refine box_event ?hg (N := 4) ?hd (cs := #[.int .i64 a1_0, .string a1_1, .string a1_2, .slice A1_3 l1_3.length c1_3, .slice A1_4 l1_4.length c1_4]) (t := 26) ?hr ?_; (case hd => rfl); (case hg => rfl); (case hr => first | (go_simp; done) | (go_simp; rfl)); intro gb713 hg w22 hbox hb; have n0_ := am_ (blk_below (g := gb712) (o := .cells #[.int .i64 a0_0, .string a0_1, .string a0_2, .slice A0_3 l0_3.length c0_3, .slice A0_4 l0_4.length c0_4] 26 (0, 0)) (blk_ BK712.out) hb); have n1_ := am_ (below_step (bel_ HB.out) hb); have n2_ := am_ (hbox); have n3_ := am_ ((by rw [hg]; exact (below_size (bel_ HB.out)) : w.heap.size ≤ gb713)); have n4_ := am_ ((by rw [hg]; exact (below_size (bel_ HB.out)) : w.heap.size ≤ gb713)); have n5_ := am_ ((by rw [hg]; exact Nat.ne_of_lt (blk_lt (g := gb712) (o := .cells #[.int .i64 a0_0, .string a0_1, .string a0_2, .slice A0_3 l0_3.length c0_3, .slice A0_4 l0_4.length c0_4] 26 (0, 0)) (blk_ BK712.out)) : gb712 ≠ gb713)); have n6_ := am_ ((by rw [hg]; exact Nat.ne_of_gt (blk_lt (g := gb712) (o := .cells #[.int .i64 a0_0, .string a0_1, .string a0_2, .slice A0_3 l0_3.length c0_3, .slice A0_4 l0_4.length c0_4] 26 (0, 0)) (blk_ BK712.out)) : gb713 ≠ gb712)); clear BK712 HB; have BK712 := n0_; have HB := n1_; have BK713 := n2_; have GW713 := n3_; have GE713 := n4_; have NB712_713 := n5_; have NB713_712 := n6_; clear n0_ n1_ n2_ n3_ n4_ n5_ n6_ hb hbox hg) | ((with_reducible refine gate_dst (N := 5) rfl ?_); refine box_event ?hg (N := 5) ?hd (cs := #[.int .i64 a2_0, .string a2_1, .string a2_2, .slice A2_3 l2_3.length c2_3, .slice A2_4 l2_4.length c2_4]) (t := 26) ?hr ?_; (case hd => rfl); (case hg => rfl); (case hr => first | (go_simp; done) | (go_simp; rfl)); intro gb714 hg w23 hbox hb; have n0_ := am_ (blk_below (g := gb712) (o := .cells #[.int .i64 a0_0, .string a0_1, .string a0_2, .slice A0_3 l0_3.length c0_3, .slice A0_4 l0_4.length c0_4] 26 (0, 0)) (blk_ BK712.out) hb); have n1_ := am_ (blk_below (g := gb713) (o := .cells #[.int .i64 a1_0, .string a1_1, .string a1_2, .slice A1_3 l1_3.length c1_3, .slice A1_4 l1_4.length c1_4] 26 (0, 0)) (blk_ BK713.out) hb); have n2_ := am_ (below_step (bel_ HB.out) hb); have n3_ := am_ (hbox); have n4_ := am_ ((by rw [hg]; exact (below_size (bel_ HB.out)) : w.heap.size ≤ gb714)); have n5_ := am_ ((by rw [hg]; exact (below_size (bel_ HB.out)) : w.heap.size ≤ gb714)); have n6_ := am_ ((by rw [hg]; exact Nat.ne_of_lt (blk_lt (g := gb712) (o := .cells #[.int .i64 a0_0, .string a0_1, .string a0_2, .slice A0_3 l0_3.length c0_3, .slice A0_4 l0_4.length c0_4] 26 (0, 0)) (blk_ BK712.out)) : gb712 ≠ gb714)); have n7_ := am_ ((by rw [hg]; exact Nat.ne_of_gt (blk_lt (g := gb712) (o := .cells #[.int .i64 a0_0, .string a0_1, .string a0_2, .slice A0_3 l0_3.length c0_3, .slice A0_4 l0_4.length c0_4] 26 (0, 0)) (blk_ BK712.out)) : gb714 ≠ gb712)); have n8_ := am_ ((by rw [hg]; exact Nat.ne_of_lt (blk_lt (g := gb713) (o := .cells #[.int .i64 a1_0, .string a1_1, .string a1_2, .slice A1_3 l1_3.length c1_3, .slice A1_4 l1_4.length c1_4] 26 (0, 0)) (blk_ BK713.out)) : gb713 ≠ gb714)); have n9_ := am_ ((by rw [hg]; exact Nat.ne_of_gt (blk_lt (g := gb713) (o := .cells #[.int .i64 a1_0, .string a1_1, .string a1_2, .slice A1_3 l1_3.length c1_3, .slice A1_4 l1_4.length c1_4] 26 (0, 0)) (blk_ BK713.out)) : gb714 ≠ gb713)); clear BK712 BK713 HB; have BK712 := n0_; have BK713 := n1_; have HB := n2_; have BK714 := n3_; have GW714 := n4_; have GE714 := n5_; have NB712_714 := n6_; have NB714_712 := n7_; have NB713_714 := n8_; have NB714_713 := n9_; clear n0_ n1_ n2_ n3_ n4_ n5_ n6_ n7_ n8_ n9_ hb hbox hg))
         have n0_ := am_ (blk_drew BK712.out)
         have n1_ := am_ (blk_drew BK713.out)
         have n2_ := am_ (blk_drew BK714.out)
         have n3_ := am_ (below_drew1 HB.out)
         clear BK712 BK713 BK714 HB
         have BK712 := n0_
         have BK713 := n1_
         have BK714 := n2_
         have HB := n3_
         clear n0_ n1_ n2_ n3_
         refine start_ (n := 9) (S := fun w' => w'.cell? ⟨gb712, 0, none⟩ = some (.int .i64 a0_0) ∧ w'.cell? ⟨gb712, 1, none⟩ = some (.string a0_1) ∧ w'.cell? ⟨gb712, 2, none⟩ = some (.string a0_2) ∧ w'.cell? ⟨gb712, 3, none⟩ = some (.slice A0_3 l0_3.length c0_3) ∧ w'.cell? ⟨gb712, 4, none⟩ = some (.slice A0_4 l0_4.length c0_4) ∧ w'.cell? ⟨gb713, 0, none⟩ = some (.int .i64 a1_0) ∧ w'.cell? ⟨gb713, 1, none⟩ = some (.string a1_1) ∧ w'.cell? ⟨gb713, 2, none⟩ = some (.string a1_2) ∧ w'.cell? ⟨gb713, 3, none⟩ = some (.slice A1_3 l1_3.length c1_3) ∧ w'.cell? ⟨gb713, 4, none⟩ = some (.slice A1_4 l1_4.length c1_4) ∧ w'.cell? ⟨gb714, 0, none⟩ = some (.int .i64 a2_0) ∧ w'.cell? ⟨gb714, 1, none⟩ = some (.string a2_1) ∧ w'.cell? ⟨gb714, 2, none⟩ = some (.string a2_2) ∧ w'.cell? ⟨gb714, 3, none⟩ = some (.slice A2_3 l2_3.length c2_3) ∧ w'.cell? ⟨gb714, 4, none⟩ = some (.slice A2_4 l2_4.length c2_4)) (ds := [6, 7, 8]) #[false, false, false, false, false, false, false, false, false] kr_ rfl rfl ⟨(blk_cell BK712.out 0).trans rfl, (blk_cell BK712.out 1).trans rfl, (blk_cell BK712.out 2).trans rfl, (blk_cell BK712.out 3).trans rfl, (blk_cell BK712.out 4).trans rfl, (blk_cell BK713.out 0).trans rfl, (blk_cell BK713.out 1).trans rfl, (blk_cell BK713.out 2).trans rfl, (blk_cell BK713.out 3).trans rfl, (blk_cell BK713.out 4).trans rfl, (blk_cell BK714.out 0).trans rfl, (blk_cell BK714.out 1).trans rfl, (blk_cell BK714.out 2).trans rfl, (blk_cell BK714.out 3).trans rfl, (blk_cell BK714.out 4).trans rfl⟩ (fun hHeld => ?_); refine with_tabW tolllaw06_RuleRanks_g1.tab1 tolllaw06_RuleRanks_g1.bits1 (fun HT_ HW_ => ?_)
         generalize w23.drew = w24 at BK712 BK713 BK714 HB hHeld ⊢
         refine take_ (i := 0) (N := some 10) (v := ?_) (a' := ?_) #[true, false, false, false, false, false, false, false, false] rfl rfl (take_ofW HT_.out HW_.out kr_) (fun _ _ _ h => h) (Or.inl ⟨by rfl, ?_⟩) hHeld ?_ ?_
         rotate_left
         ·rintro w' ⟨s0, s1, s2, s3, s4, s5, s6, s7, s8, s9, s10, s11, s12, s13, s14⟩
          go_simp
          with_reducible rfl
         rotate_left
         ·simp only [Act.put, sx_, s0_, s1_, i64_w, i32_w]
          rfl
         refine take_ (i := 2) (N := some 12) (v := ?_) (a' := ?_) #[true, false, true, false, false, false, false, false, false] rfl rfl (take_ofW HT_.out HW_.out kr_) (fun _ _ _ h => h) (Or.inl ⟨by rfl, ?_⟩) hHeld ?_ ?_
         rotate_left
         ·rintro w' ⟨s0, s1, s2, s3, s4, s5, s6, s7, s8, s9, s10, s11, s12, s13, s14⟩
          go_simp
          with_reducible rfl
         rotate_left
         ·simp only [Act.put, sx_, s0_, s1_, i64_w, i32_w]
          rfl
         refine take_ (i := 4) (N := some 14) (v := ?_) (a' := ?_) #[true, false, true, false, true, false, false, false, false] rfl rfl (take_ofW HT_.out HW_.out kr_) (fun _ _ _ h => h) (Or.inl ⟨by rfl, ?_⟩) hHeld ?_ ?_
         rotate_left
         ·rintro w' ⟨s0, s1, s2, s3, s4, s5, s6, s7, s8, s9, s10, s11, s12, s13, s14⟩
          go_simp
          with_reducible rfl
         rotate_left
         ·simp only [Act.put, sx_, s0_, s1_, i64_w, i32_w]
          rfl
         refine one_ (i := 1) (N := some 11) #[true, true, true, false, true, false, false, false, false] rfl rfl (one_of HT_.out kr_) (by decide) (fun K hK => ?_)
         refine goes_ Tryd.func9 kr_ rfl #[.agg #[.int .i64 a0_0, .string a0_1, .string a0_2, .slice A0_3 l0_3.length c0_3, .slice A0_4 l0_4.length c0_4]] (by rfl) rfl rfl rl_ ?_
         with_reducible refine (tolllaw06_Few.calls k a0_0 a0_1 a0_2 _ _ l0_3 _ _ l0_4 t715 t716 t717 t718 t721 _ ?side1 ?side2 ?side3 ?side4 A4.out).mono ?_
         (case side1 => exact C_ (Kd.C_below HR0_3.out HB.out))
         (case side2 => exact HC0_3.out)
         (case side3 => exact C_ (Kd.C_below HR0_4.out HB.out))
         (case side4 => exact HC0_4.out)
         rintro e w25 ⟨v719, v722, rfl, ho0, ho1, hb⟩
         refine ⟨_, rfl, ?_⟩
         have n0_ := am_ (Kd.R_lower ho0 (below_size (bel_ HB.out)))
         have n1_ := am_ (Kd.R_lower ho1 (below_size (bel_ HB.out)))
         have n2_ := am_ (blk_below (g := gb712) (o := .cells #[.int .i64 a0_0, .string a0_1, .string a0_2, .slice A0_3 l0_3.length c0_3, .slice A0_4 l0_4.length c0_4] 26 (0, 0)) (blk_ BK712.out) hb)
         have n3_ := am_ (blk_below (g := gb713) (o := .cells #[.int .i64 a1_0, .string a1_1, .string a1_2, .slice A1_3 l1_3.length c1_3, .slice A1_4 l1_4.length c1_4] 26 (0, 0)) (blk_ BK713.out) hb)
         have n4_ := am_ (blk_below (g := gb714) (o := .cells #[.int .i64 a2_0, .string a2_1, .string a2_2, .slice A2_3 l2_3.length c2_3, .slice A2_4 l2_4.length c2_4] 26 (0, 0)) (blk_ BK714.out) hb)
         have n5_ := am_ (below_step (bel_ HB.out) hb)
         clear BK712 BK713 BK714 HB
         have HO720 := n0_
         have HO723 := n1_
         have BK712 := n2_
         have BK713 := n3_
         have BK714 := n4_
         have HB := n5_
         clear n0_ n1_ n2_ n3_ n4_ n5_
         (try clear hb)
         (try clear hb2)
         (try clear hk)
         (try clear hi)
         (try clear ho0)
         (try clear ho1)
         refine hK.out _ _ ⟨(blk_cell BK712.out 0).trans rfl, (blk_cell BK712.out 1).trans rfl, (blk_cell BK712.out 2).trans rfl, (blk_cell BK712.out 3).trans rfl, (blk_cell BK712.out 4).trans rfl, (blk_cell BK713.out 0).trans rfl, (blk_cell BK713.out 1).trans rfl, (blk_cell BK713.out 2).trans rfl, (blk_cell BK713.out 3).trans rfl, (blk_cell BK713.out 4).trans rfl, (blk_cell BK714.out 0).trans rfl, (blk_cell BK714.out 1).trans rfl, (blk_cell BK714.out 2).trans rfl, (blk_cell BK714.out 3).trans rfl, (blk_cell BK714.out 4).trans rfl⟩ (fun hHeld => ?_)
         clear hK K
         refine norm_ (a' := ?_) ?_ ?_
         rotate_left
         ·show Act.put _ (some 11) _ = _
          simp only [Act.put, sx_, s0_, s1_, i64_w, i32_w]
          rfl
         refine one_ (i := 3) (N := some 13) #[true, true, true, true, true, false, false, false, false] rfl rfl (one_of HT_.out kr_) (by decide) (fun K hK => ?_)
         refine goes_ Tryd.func9 kr_ rfl #[.agg #[.int .i64 a1_0, .string a1_1, .string a1_2, .slice A1_3 l1_3.length c1_3, .slice A1_4 l1_4.length c1_4]] (by rfl) rfl rfl rl_ ?_
         with_reducible refine (tolllaw06_Few.calls k a1_0 a1_1 a1_2 _ _ l1_3 _ _ l1_4 t724 t725 t726 t727 t730 _ ?side1 ?side2 ?side3 ?side4 A5.out).mono ?_
         (case side1 => exact C_ (Kd.C_below HR1_3.out HB.out))
         (case side2 => exact HC1_3.out)
         (case side3 => exact C_ (Kd.C_below HR1_4.out HB.out))
         (case side4 => exact HC1_4.out)
         rintro e w26 ⟨v728, v731, rfl, ho0, ho1, hb⟩
         refine ⟨_, rfl, ?_⟩
         have n0_ := am_ (Kd.R_mono (Kd.R_told (Kd.R_told (Kd.R_old (R_ HO720.out) hb) (Kd.R_base ho0)) (Kd.R_base ho1)) (fun _ h_ => h_.1))
         have n1_ := am_ (Kd.R_mono (Kd.R_told (Kd.R_told (Kd.R_old (R_ HO723.out) hb) (Kd.R_base ho0)) (Kd.R_base ho1)) (fun _ h_ => h_.1))
         have n2_ := am_ (Kd.R_lower (Kd.R_new' (Kd.R_new' ho0 (Kd.R_lt (R_ HO720.out))) (Kd.R_lt (R_ HO723.out))) (below_size (bel_ HB.out)))
         have n3_ := am_ (Kd.R_lower (Kd.R_new' (Kd.R_new' ho1 (Kd.R_lt (R_ HO720.out))) (Kd.R_lt (R_ HO723.out))) (below_size (bel_ HB.out)))
         have n4_ := am_ (blk_below (g := gb712) (o := .cells #[.int .i64 a0_0, .string a0_1, .string a0_2, .slice A0_3 l0_3.length c0_3, .slice A0_4 l0_4.length c0_4] 26 (0, 0)) (blk_ BK712.out) hb)
         have n5_ := am_ (blk_below (g := gb713) (o := .cells #[.int .i64 a1_0, .string a1_1, .string a1_2, .slice A1_3 l1_3.length c1_3, .slice A1_4 l1_4.length c1_4] 26 (0, 0)) (blk_ BK713.out) hb)
         have n6_ := am_ (blk_below (g := gb714) (o := .cells #[.int .i64 a2_0, .string a2_1, .string a2_2, .slice A2_3 l2_3.length c2_3, .slice A2_4 l2_4.length c2_4] 26 (0, 0)) (blk_ BK714.out) hb)
         have n7_ := am_ (below_step (bel_ HB.out) hb)
         clear HO720 HO723 BK712 BK713 BK714 HB
         have HO720 := n0_
         have HO723 := n1_
         have HO729 := n2_
         have HO732 := n3_
         have BK712 := n4_
         have BK713 := n5_
         have BK714 := n6_
         have HB := n7_
         clear n0_ n1_ n2_ n3_ n4_ n5_ n6_ n7_
         (try clear hb)
         (try clear hb2)
         (try clear hk)
         (try clear hi)
         (try clear ho0)
         (try clear ho1)
         refine hK.out _ _ ⟨(blk_cell BK712.out 0).trans rfl, (blk_cell BK712.out 1).trans rfl, (blk_cell BK712.out 2).trans rfl, (blk_cell BK712.out 3).trans rfl, (blk_cell BK712.out 4).trans rfl, (blk_cell BK713.out 0).trans rfl, (blk_cell BK713.out 1).trans rfl, (blk_cell BK713.out 2).trans rfl, (blk_cell BK713.out 3).trans rfl, (blk_cell BK713.out 4).trans rfl, (blk_cell BK714.out 0).trans rfl, (blk_cell BK714.out 1).trans rfl, (blk_cell BK714.out 2).trans rfl, (blk_cell BK714.out 3).trans rfl, (blk_cell BK714.out 4).trans rfl⟩ (fun hHeld => ?_)
         clear hK K
         refine norm_ (a' := ?_) ?_ ?_
         rotate_left
         ·show Act.put _ (some 13) _ = _
          simp only [Act.put, sx_, s0_, s1_, i64_w, i32_w]
          rfl
         refine one_ (i := 5) (N := some 15) #[true, true, true, true, true, true, false, false, false] rfl rfl (one_of HT_.out kr_) (by decide) (fun K hK => ?_)
         refine goes_ Tryd.func9 kr_ rfl #[.agg #[.int .i64 a2_0, .string a2_1, .string a2_2, .slice A2_3 l2_3.length c2_3, .slice A2_4 l2_4.length c2_4]] (by rfl) rfl rfl rl_ ?_
         with_reducible refine (tolllaw06_Few.calls k a2_0 a2_1 a2_2 _ _ l2_3 _ _ l2_4 t733 t734 t735 t736 t739 _ ?side1 ?side2 ?side3 ?side4 A6.out).mono ?_
         (case side1 => exact C_ (Kd.C_below HR2_3.out HB.out))
         (case side2 => exact HC2_3.out)
         (case side3 => exact C_ (Kd.C_below HR2_4.out HB.out))
         (case side4 => exact HC2_4.out)
         rintro e w27 ⟨v737, v740, rfl, ho0, ho1, hb⟩
         refine ⟨_, rfl, ?_⟩
         have n0_ := am_ (Kd.R_mono (Kd.R_told (Kd.R_told (Kd.R_old (R_ HO720.out) hb) (Kd.R_base ho0)) (Kd.R_base ho1)) (fun _ h_ => h_.1))
         have n1_ := am_ (Kd.R_mono (Kd.R_told (Kd.R_told (Kd.R_old (R_ HO723.out) hb) (Kd.R_base ho0)) (Kd.R_base ho1)) (fun _ h_ => h_.1))
         have n2_ := am_ (Kd.R_mono (Kd.R_told (Kd.R_told (Kd.R_old (R_ HO729.out) hb) (Kd.R_base ho0)) (Kd.R_base ho1)) (fun _ h_ => h_.1))
         have n3_ := am_ (Kd.R_mono (Kd.R_told (Kd.R_told (Kd.R_old (R_ HO732.out) hb) (Kd.R_base ho0)) (Kd.R_base ho1)) (fun _ h_ => h_.1))
         have n4_ := am_ (Kd.R_lower (Kd.R_new' (Kd.R_new' (Kd.R_new' (Kd.R_new' ho0 (Kd.R_lt (R_ HO720.out))) (Kd.R_lt (R_ HO723.out))) (Kd.R_lt (R_ HO729.out))) (Kd.R_lt (R_ HO732.out))) (below_size (bel_ HB.out)))
         have n5_ := am_ (Kd.R_lower (Kd.R_new' (Kd.R_new' (Kd.R_new' (Kd.R_new' ho1 (Kd.R_lt (R_ HO720.out))) (Kd.R_lt (R_ HO723.out))) (Kd.R_lt (R_ HO729.out))) (Kd.R_lt (R_ HO732.out))) (below_size (bel_ HB.out)))
         have n6_ := am_ (blk_below (g := gb712) (o := .cells #[.int .i64 a0_0, .string a0_1, .string a0_2, .slice A0_3 l0_3.length c0_3, .slice A0_4 l0_4.length c0_4] 26 (0, 0)) (blk_ BK712.out) hb)
         have n7_ := am_ (blk_below (g := gb713) (o := .cells #[.int .i64 a1_0, .string a1_1, .string a1_2, .slice A1_3 l1_3.length c1_3, .slice A1_4 l1_4.length c1_4] 26 (0, 0)) (blk_ BK713.out) hb)
         have n8_ := am_ (blk_below (g := gb714) (o := .cells #[.int .i64 a2_0, .string a2_1, .string a2_2, .slice A2_3 l2_3.length c2_3, .slice A2_4 l2_4.length c2_4] 26 (0, 0)) (blk_ BK714.out) hb)
         have n9_ := am_ (below_step (bel_ HB.out) hb)
         clear HO720 HO723 HO729 HO732 BK712 BK713 BK714 HB
         have HO720 := n0_
         have HO723 := n1_
         have HO729 := n2_
         have HO732 := n3_
         have HO738 := n4_
         have HO741 := n5_
         have BK712 := n6_
         have BK713 := n7_
         have BK714 := n8_
         have HB := n9_
         clear n0_ n1_ n2_ n3_ n4_ n5_ n6_ n7_ n8_ n9_
         (try clear hb)
         (try clear hb2)
         (try clear hk)
         (try clear hi)
         (try clear ho0)
         (try clear ho1)
         obtain ⟨Ao31, co31, eo31⟩ := Kd.R_slice HO720.out
         (first | subst eo31 | (injection eo31 with f1_ f2_ f3_; have f4_ := f1_.symm; have f5_ := f3_.symm; clear f1_ f2_ f3_; subst f4_; subst f5_))
         obtain ⟨Ao33, co33, eo33⟩ := Kd.R_slice HO723.out
         (first | subst eo33 | (injection eo33 with f1_ f2_ f3_; have f4_ := f1_.symm; have f5_ := f3_.symm; clear f1_ f2_ f3_; subst f4_; subst f5_))
         obtain ⟨Ao38, co38, eo38⟩ := Kd.R_slice HO729.out
         (first | subst eo38 | (injection eo38 with f1_ f2_ f3_; have f4_ := f1_.symm; have f5_ := f3_.symm; clear f1_ f2_ f3_; subst f4_; subst f5_))
         obtain ⟨Ao40, co40, eo40⟩ := Kd.R_slice HO732.out
         (first | subst eo40 | (injection eo40 with f1_ f2_ f3_; have f4_ := f1_.symm; have f5_ := f3_.symm; clear f1_ f2_ f3_; subst f4_; subst f5_))
         obtain ⟨Ao45, co45, eo45⟩ := Kd.R_slice HO738.out
         (first | subst eo45 | (injection eo45 with f1_ f2_ f3_; have f4_ := f1_.symm; have f5_ := f3_.symm; clear f1_ f2_ f3_; subst f4_; subst f5_))
         obtain ⟨Ao47, co47, eo47⟩ := Kd.R_slice HO741.out
         (first | subst eo47 | (injection eo47 with f1_ f2_ f3_; have f4_ := f1_.symm; have f5_ := f3_.symm; clear f1_ f2_ f3_; subst f4_; subst f5_))
         refine hK.out _ _ ⟨(blk_cell BK712.out 0).trans rfl, (blk_cell BK712.out 1).trans rfl, (blk_cell BK712.out 2).trans rfl, (blk_cell BK712.out 3).trans rfl, (blk_cell BK712.out 4).trans rfl, (blk_cell BK713.out 0).trans rfl, (blk_cell BK713.out 1).trans rfl, (blk_cell BK713.out 2).trans rfl, (blk_cell BK713.out 3).trans rfl, (blk_cell BK713.out 4).trans rfl, (blk_cell BK714.out 0).trans rfl, (blk_cell BK714.out 1).trans rfl, (blk_cell BK714.out 2).trans rfl, (blk_cell BK714.out 3).trans rfl, (blk_cell BK714.out 4).trans rfl⟩ (fun hHeld => ?_)
         clear hK K
         refine norm_ (a' := ?_) ?_ ?_
         rotate_left
         ·show Act.put _ (some 15) _ = _
          simp only [Act.put, sx_, s0_, s1_, i64_w, i32_w]
          rfl
         refine last_ (i := 6) (N := none) #[true, true, true, true, true, true, true, false, false] rfl rfl (one_of HT_.out kr_) (by decide) (fun K hK => ?_)
         have hs28 : w27.cell? ⟨gb712, 0, none⟩ = some (.int .i64 a0_0) := (blk_cell BK712.out 0).trans rfl
         have hfs28 := blk_frozen BK712.out 0
         have hns28_1 := NB713_712.out
         have hns28_2 := NB714_712.out
         have hms28_1 := NB712_713.out
         have hms28_2 := NB712_714.out
         have hs29 : w27.cell? ⟨gb712, 1, none⟩ = some (.string a0_1) := (blk_cell BK712.out 1).trans rfl
         have hfs29 := blk_frozen BK712.out 1
         have hns29_1 := NB713_712.out
         have hns29_2 := NB714_712.out
         have hms29_1 := NB712_713.out
         have hms29_2 := NB712_714.out
         have hs30 : w27.cell? ⟨gb712, 2, none⟩ = some (.string a0_2) := (blk_cell BK712.out 2).trans rfl
         have hfs30 := blk_frozen BK712.out 2
         have hns30_1 := NB713_712.out
         have hns30_2 := NB714_712.out
         have hms30_1 := NB712_713.out
         have hms30_2 := NB712_714.out
         have hs32 : w27.cell? ⟨gb712, 3, none⟩ = some (.slice A0_3 l0_3.length c0_3) := (blk_cell BK712.out 3).trans rfl
         have hfs32 := blk_frozen BK712.out 3
         have hns32_1 := NB713_712.out
         have hns32_2 := NB714_712.out
         have hms32_1 := NB712_713.out
         have hms32_2 := NB712_714.out
         have hs34 : w27.cell? ⟨gb712, 4, none⟩ = some (.slice A0_4 l0_4.length c0_4) := (blk_cell BK712.out 4).trans rfl
         have hfs34 := blk_frozen BK712.out 4
         have hns34_1 := NB713_712.out
         have hns34_2 := NB714_712.out
         have hms34_1 := NB712_713.out
         have hms34_2 := NB712_714.out
         refine skip_ (w1 := ?_) ?_ ?_ ?_ ?_
         rotate_left
         ·rfl
         ·rfl
         ·go_simp
          rfl
         refine hK.out _ _ ?_
         clear hK K
         refine last_ (i := 7) (N := none) #[true, true, true, true, true, true, true, true, false] rfl rfl (one_of HT_.out kr_) (by decide) (fun K hK => ?_)
         have hs35 : w27.cell? ⟨gb713, 0, none⟩ = some (.int .i64 a1_0) := (blk_cell BK713.out 0).trans rfl
         have hfs35 := blk_frozen BK713.out 0
         have hns35_0 := NB712_713.out
         have hns35_2 := NB714_713.out
         have hms35_0 := NB713_712.out
         have hms35_2 := NB713_714.out
         have hs36 : w27.cell? ⟨gb713, 1, none⟩ = some (.string a1_1) := (blk_cell BK713.out 1).trans rfl
         have hfs36 := blk_frozen BK713.out 1
         have hns36_0 := NB712_713.out
         have hns36_2 := NB714_713.out
         have hms36_0 := NB713_712.out
         have hms36_2 := NB713_714.out
         have hs37 : w27.cell? ⟨gb713, 2, none⟩ = some (.string a1_2) := (blk_cell BK713.out 2).trans rfl
         have hfs37 := blk_frozen BK713.out 2
         have hns37_0 := NB712_713.out
         have hns37_2 := NB714_713.out
         have hms37_0 := NB713_712.out
         have hms37_2 := NB713_714.out
         have hs39 : w27.cell? ⟨gb713, 3, none⟩ = some (.slice A1_3 l1_3.length c1_3) := (blk_cell BK713.out 3).trans rfl
         have hfs39 := blk_frozen BK713.out 3
         have hns39_0 := NB712_713.out
         have hns39_2 := NB714_713.out
         have hms39_0 := NB713_712.out
         have hms39_2 := NB713_714.out
         have hs41 : w27.cell? ⟨gb713, 4, none⟩ = some (.slice A1_4 l1_4.length c1_4) := (blk_cell BK713.out 4).trans rfl
         have hfs41 := blk_frozen BK713.out 4
         have hns41_0 := NB712_713.out
         have hns41_2 := NB714_713.out
         have hms41_0 := NB713_712.out
         have hms41_2 := NB713_714.out
         refine skip_ (w1 := ?_) ?_ ?_ ?_ ?_
         rotate_left
         ·rfl
         ·rfl
         ·go_simp
          rfl
         refine hK.out _ _ ?_
         clear hK K
         refine last_ (i := 8) (N := none) #[true, true, true, true, true, true, true, true, true] rfl rfl (one_of HT_.out kr_) (by decide) (fun K hK => ?_)
         have hs42 : w27.cell? ⟨gb714, 0, none⟩ = some (.int .i64 a2_0) := (blk_cell BK714.out 0).trans rfl
         have hfs42 := blk_frozen BK714.out 0
         have hns42_0 := NB712_714.out
         have hns42_1 := NB713_714.out
         have hms42_0 := NB714_712.out
         have hms42_1 := NB714_713.out
         have hs43 : w27.cell? ⟨gb714, 1, none⟩ = some (.string a2_1) := (blk_cell BK714.out 1).trans rfl
         have hfs43 := blk_frozen BK714.out 1
         have hns43_0 := NB712_714.out
         have hns43_1 := NB713_714.out
         have hms43_0 := NB714_712.out
         have hms43_1 := NB714_713.out
         have hs44 : w27.cell? ⟨gb714, 2, none⟩ = some (.string a2_2) := (blk_cell BK714.out 2).trans rfl
         have hfs44 := blk_frozen BK714.out 2
         have hns44_0 := NB712_714.out
         have hns44_1 := NB713_714.out
         have hms44_0 := NB714_712.out
         have hms44_1 := NB714_713.out
         have hs46 : w27.cell? ⟨gb714, 3, none⟩ = some (.slice A2_3 l2_3.length c2_3) := (blk_cell BK714.out 3).trans rfl
         have hfs46 := blk_frozen BK714.out 3
         have hns46_0 := NB712_714.out
         have hns46_1 := NB713_714.out
         have hms46_0 := NB714_712.out
         have hms46_1 := NB714_713.out
         have hs48 : w27.cell? ⟨gb714, 4, none⟩ = some (.slice A2_4 l2_4.length c2_4) := (blk_cell BK714.out 4).trans rfl
         have hfs48 := blk_frozen BK714.out 4
         have hns48_0 := NB712_714.out
         have hns48_1 := NB713_714.out
         have hms48_0 := NB714_712.out
         have hms48_1 := NB714_713.out
         refine skip_ (w1 := ?_) ?_ ?_ ?_ ?_
         rotate_left
         ·rfl
         ·rfl
         ·go_simp
          rfl
         refine hK.out _ _ ?_
         clear hK K
         refine done_ (done_of HT_.out kr_) ?_
         try go_wp2
         have n0_ : Aside0 (Kd.R k49 49 (((((((((((((((w27.setCell ⟨gb712, 0, none⟩ (.int .i64 t715)).setCell ⟨gb712, 1, none⟩ (.string t716)).setCell ⟨gb712, 2, none⟩ (.string t717)).setCell ⟨gb712, 3, none⟩ (.slice Ao31 t718.length co31)).setCell ⟨gb712, 4, none⟩ (.slice Ao33 t721.length co33)).setCell ⟨gb713, 0, none⟩ (.int .i64 t724)).setCell ⟨gb713, 1, none⟩ (.string t725)).setCell ⟨gb713, 2, none⟩ (.string t726)).setCell ⟨gb713, 3, none⟩ (.slice Ao38 t727.length co38)).setCell ⟨gb713, 4, none⟩ (.slice Ao40 t730.length co40)).setCell ⟨gb714, 0, none⟩ (.int .i64 t733)).setCell ⟨gb714, 1, none⟩ (.string t734)).setCell ⟨gb714, 2, none⟩ (.string t735)).setCell ⟨gb714, 3, none⟩ (.slice Ao45 t736.length co45)).setCell ⟨gb714, 4, none⟩ (.slice Ao47 t739.length co47)) w.heap.size (fun k_ => some k_ ≠ (.slice Ao33 t721.length co33 : Value).ownBlock ∧ some k_ ≠ (.slice Ao38 t727.length co38 : Value).ownBlock ∧ some k_ ≠ (.slice Ao40 t730.length co40 : Value).ownBlock ∧ some k_ ≠ (.slice Ao45 t736.length co45 : Value).ownBlock ∧ some k_ ≠ (.slice Ao47 t739.length co47 : Value).ownBlock) (.slice Ao31 t718.length co31) t718) := ⟨by (with_reducible repeat (first | apply Kd.R_alloc | apply Kd.R_drewN | apply Kd.R_drew)); exact Kd.R_mono (Kd.R_far (p := ⟨gb714, 4, none⟩) (Kd.R_far (p := ⟨gb714, 3, none⟩) (Kd.R_far (p := ⟨gb714, 2, none⟩) (Kd.R_far (p := ⟨gb714, 1, none⟩) (Kd.R_far (p := ⟨gb714, 0, none⟩) (Kd.R_far (p := ⟨gb713, 4, none⟩) (Kd.R_far (p := ⟨gb713, 3, none⟩) (Kd.R_far (p := ⟨gb713, 2, none⟩) (Kd.R_far (p := ⟨gb713, 1, none⟩) (Kd.R_far (p := ⟨gb713, 0, none⟩) (Kd.R_far (p := ⟨gb712, 4, none⟩) (Kd.R_far (p := ⟨gb712, 3, none⟩) (Kd.R_far (p := ⟨gb712, 2, none⟩) (Kd.R_far (p := ⟨gb712, 1, none⟩) (Kd.R_far (p := ⟨gb712, 0, none⟩) (Kd.R_types (Kd.R_types (Kd.R_types HO720.out BK712.out (by decide)) BK713.out (by decide)) BK714.out (by decide)) (fun _ hk => hk.1.1.2) (.int .i64 t715)) (fun _ hk => hk.1.1.2) (.string t716)) (fun _ hk => hk.1.1.2) (.string t717)) (fun _ hk => hk.1.1.2) (.slice Ao31 t718.length co31)) (fun _ hk => hk.1.1.2) (.slice Ao33 t721.length co33)) (fun _ hk => hk.1.2) (.int .i64 t724)) (fun _ hk => hk.1.2) (.string t725)) (fun _ hk => hk.1.2) (.string t726)) (fun _ hk => hk.1.2) (.slice Ao38 t727.length co38)) (fun _ hk => hk.1.2) (.slice Ao40 t730.length co40)) (fun _ hk => hk.2) (.int .i64 t733)) (fun _ hk => hk.2) (.string t734)) (fun _ hk => hk.2) (.string t735)) (fun _ hk => hk.2) (.slice Ao45 t736.length co45)) (fun _ hk => hk.2) (.slice Ao47 t739.length co47)) (fun _ hk => ⟨hk.1.1.1.1.1.1.1, ⟨hk.1.1.1.1.1.1.2, ⟨hk.1.1.1.1.1.2, ⟨hk.1.1.1.1.2, hk.1.1.1.2⟩⟩⟩⟩)⟩
         have n1_ : Aside0 (Kd.R k49 49 (((((((((((((((w27.setCell ⟨gb712, 0, none⟩ (.int .i64 t715)).setCell ⟨gb712, 1, none⟩ (.string t716)).setCell ⟨gb712, 2, none⟩ (.string t717)).setCell ⟨gb712, 3, none⟩ (.slice Ao31 t718.length co31)).setCell ⟨gb712, 4, none⟩ (.slice Ao33 t721.length co33)).setCell ⟨gb713, 0, none⟩ (.int .i64 t724)).setCell ⟨gb713, 1, none⟩ (.string t725)).setCell ⟨gb713, 2, none⟩ (.string t726)).setCell ⟨gb713, 3, none⟩ (.slice Ao38 t727.length co38)).setCell ⟨gb713, 4, none⟩ (.slice Ao40 t730.length co40)).setCell ⟨gb714, 0, none⟩ (.int .i64 t733)).setCell ⟨gb714, 1, none⟩ (.string t734)).setCell ⟨gb714, 2, none⟩ (.string t735)).setCell ⟨gb714, 3, none⟩ (.slice Ao45 t736.length co45)).setCell ⟨gb714, 4, none⟩ (.slice Ao47 t739.length co47)) w.heap.size (fun k_ => some k_ ≠ (.slice Ao31 t718.length co31 : Value).ownBlock ∧ some k_ ≠ (.slice Ao38 t727.length co38 : Value).ownBlock ∧ some k_ ≠ (.slice Ao40 t730.length co40 : Value).ownBlock ∧ some k_ ≠ (.slice Ao45 t736.length co45 : Value).ownBlock ∧ some k_ ≠ (.slice Ao47 t739.length co47 : Value).ownBlock) (.slice Ao33 t721.length co33) t721) := ⟨by (with_reducible repeat (first | apply Kd.R_alloc | apply Kd.R_drewN | apply Kd.R_drew)); exact Kd.R_mono (Kd.R_far (p := ⟨gb714, 4, none⟩) (Kd.R_far (p := ⟨gb714, 3, none⟩) (Kd.R_far (p := ⟨gb714, 2, none⟩) (Kd.R_far (p := ⟨gb714, 1, none⟩) (Kd.R_far (p := ⟨gb714, 0, none⟩) (Kd.R_far (p := ⟨gb713, 4, none⟩) (Kd.R_far (p := ⟨gb713, 3, none⟩) (Kd.R_far (p := ⟨gb713, 2, none⟩) (Kd.R_far (p := ⟨gb713, 1, none⟩) (Kd.R_far (p := ⟨gb713, 0, none⟩) (Kd.R_far (p := ⟨gb712, 4, none⟩) (Kd.R_far (p := ⟨gb712, 3, none⟩) (Kd.R_far (p := ⟨gb712, 2, none⟩) (Kd.R_far (p := ⟨gb712, 1, none⟩) (Kd.R_far (p := ⟨gb712, 0, none⟩) (Kd.R_types (Kd.R_types (Kd.R_types HO723.out BK712.out (by decide)) BK713.out (by decide)) BK714.out (by decide)) (fun _ hk => hk.1.1.2) (.int .i64 t715)) (fun _ hk => hk.1.1.2) (.string t716)) (fun _ hk => hk.1.1.2) (.string t717)) (fun _ hk => hk.1.1.2) (.slice Ao31 t718.length co31)) (fun _ hk => hk.1.1.2) (.slice Ao33 t721.length co33)) (fun _ hk => hk.1.2) (.int .i64 t724)) (fun _ hk => hk.1.2) (.string t725)) (fun _ hk => hk.1.2) (.string t726)) (fun _ hk => hk.1.2) (.slice Ao38 t727.length co38)) (fun _ hk => hk.1.2) (.slice Ao40 t730.length co40)) (fun _ hk => hk.2) (.int .i64 t733)) (fun _ hk => hk.2) (.string t734)) (fun _ hk => hk.2) (.string t735)) (fun _ hk => hk.2) (.slice Ao45 t736.length co45)) (fun _ hk => hk.2) (.slice Ao47 t739.length co47)) (fun _ hk => ⟨hk.1.1.1.1.1.1.1, ⟨hk.1.1.1.1.1.1.2, ⟨hk.1.1.1.1.1.2, ⟨hk.1.1.1.1.2, hk.1.1.1.2⟩⟩⟩⟩)⟩
         have n2_ : Aside0 (Kd.R k49 49 (((((((((((((((w27.setCell ⟨gb712, 0, none⟩ (.int .i64 t715)).setCell ⟨gb712, 1, none⟩ (.string t716)).setCell ⟨gb712, 2, none⟩ (.string t717)).setCell ⟨gb712, 3, none⟩ (.slice Ao31 t718.length co31)).setCell ⟨gb712, 4, none⟩ (.slice Ao33 t721.length co33)).setCell ⟨gb713, 0, none⟩ (.int .i64 t724)).setCell ⟨gb713, 1, none⟩ (.string t725)).setCell ⟨gb713, 2, none⟩ (.string t726)).setCell ⟨gb713, 3, none⟩ (.slice Ao38 t727.length co38)).setCell ⟨gb713, 4, none⟩ (.slice Ao40 t730.length co40)).setCell ⟨gb714, 0, none⟩ (.int .i64 t733)).setCell ⟨gb714, 1, none⟩ (.string t734)).setCell ⟨gb714, 2, none⟩ (.string t735)).setCell ⟨gb714, 3, none⟩ (.slice Ao45 t736.length co45)).setCell ⟨gb714, 4, none⟩ (.slice Ao47 t739.length co47)) w.heap.size (fun k_ => some k_ ≠ (.slice Ao31 t718.length co31 : Value).ownBlock ∧ some k_ ≠ (.slice Ao33 t721.length co33 : Value).ownBlock ∧ some k_ ≠ (.slice Ao40 t730.length co40 : Value).ownBlock ∧ some k_ ≠ (.slice Ao45 t736.length co45 : Value).ownBlock ∧ some k_ ≠ (.slice Ao47 t739.length co47 : Value).ownBlock) (.slice Ao38 t727.length co38) t727) := ⟨by (with_reducible repeat (first | apply Kd.R_alloc | apply Kd.R_drewN | apply Kd.R_drew)); exact Kd.R_mono (Kd.R_far (p := ⟨gb714, 4, none⟩) (Kd.R_far (p := ⟨gb714, 3, none⟩) (Kd.R_far (p := ⟨gb714, 2, none⟩) (Kd.R_far (p := ⟨gb714, 1, none⟩) (Kd.R_far (p := ⟨gb714, 0, none⟩) (Kd.R_far (p := ⟨gb713, 4, none⟩) (Kd.R_far (p := ⟨gb713, 3, none⟩) (Kd.R_far (p := ⟨gb713, 2, none⟩) (Kd.R_far (p := ⟨gb713, 1, none⟩) (Kd.R_far (p := ⟨gb713, 0, none⟩) (Kd.R_far (p := ⟨gb712, 4, none⟩) (Kd.R_far (p := ⟨gb712, 3, none⟩) (Kd.R_far (p := ⟨gb712, 2, none⟩) (Kd.R_far (p := ⟨gb712, 1, none⟩) (Kd.R_far (p := ⟨gb712, 0, none⟩) (Kd.R_types (Kd.R_types (Kd.R_types HO729.out BK712.out (by decide)) BK713.out (by decide)) BK714.out (by decide)) (fun _ hk => hk.1.1.2) (.int .i64 t715)) (fun _ hk => hk.1.1.2) (.string t716)) (fun _ hk => hk.1.1.2) (.string t717)) (fun _ hk => hk.1.1.2) (.slice Ao31 t718.length co31)) (fun _ hk => hk.1.1.2) (.slice Ao33 t721.length co33)) (fun _ hk => hk.1.2) (.int .i64 t724)) (fun _ hk => hk.1.2) (.string t725)) (fun _ hk => hk.1.2) (.string t726)) (fun _ hk => hk.1.2) (.slice Ao38 t727.length co38)) (fun _ hk => hk.1.2) (.slice Ao40 t730.length co40)) (fun _ hk => hk.2) (.int .i64 t733)) (fun _ hk => hk.2) (.string t734)) (fun _ hk => hk.2) (.string t735)) (fun _ hk => hk.2) (.slice Ao45 t736.length co45)) (fun _ hk => hk.2) (.slice Ao47 t739.length co47)) (fun _ hk => ⟨hk.1.1.1.1.1.1.2, ⟨hk.1.1.1.1.1.2, ⟨hk.1.1.1.1.1.1.1, ⟨hk.1.1.1.1.2, hk.1.1.1.2⟩⟩⟩⟩)⟩
         have n3_ : Aside0 (Kd.R k49 49 (((((((((((((((w27.setCell ⟨gb712, 0, none⟩ (.int .i64 t715)).setCell ⟨gb712, 1, none⟩ (.string t716)).setCell ⟨gb712, 2, none⟩ (.string t717)).setCell ⟨gb712, 3, none⟩ (.slice Ao31 t718.length co31)).setCell ⟨gb712, 4, none⟩ (.slice Ao33 t721.length co33)).setCell ⟨gb713, 0, none⟩ (.int .i64 t724)).setCell ⟨gb713, 1, none⟩ (.string t725)).setCell ⟨gb713, 2, none⟩ (.string t726)).setCell ⟨gb713, 3, none⟩ (.slice Ao38 t727.length co38)).setCell ⟨gb713, 4, none⟩ (.slice Ao40 t730.length co40)).setCell ⟨gb714, 0, none⟩ (.int .i64 t733)).setCell ⟨gb714, 1, none⟩ (.string t734)).setCell ⟨gb714, 2, none⟩ (.string t735)).setCell ⟨gb714, 3, none⟩ (.slice Ao45 t736.length co45)).setCell ⟨gb714, 4, none⟩ (.slice Ao47 t739.length co47)) w.heap.size (fun k_ => some k_ ≠ (.slice Ao31 t718.length co31 : Value).ownBlock ∧ some k_ ≠ (.slice Ao33 t721.length co33 : Value).ownBlock ∧ some k_ ≠ (.slice Ao38 t727.length co38 : Value).ownBlock ∧ some k_ ≠ (.slice Ao45 t736.length co45 : Value).ownBlock ∧ some k_ ≠ (.slice Ao47 t739.length co47 : Value).ownBlock) (.slice Ao40 t730.length co40) t730) := ⟨by (with_reducible repeat (first | apply Kd.R_alloc | apply Kd.R_drewN | apply Kd.R_drew)); exact Kd.R_mono (Kd.R_far (p := ⟨gb714, 4, none⟩) (Kd.R_far (p := ⟨gb714, 3, none⟩) (Kd.R_far (p := ⟨gb714, 2, none⟩) (Kd.R_far (p := ⟨gb714, 1, none⟩) (Kd.R_far (p := ⟨gb714, 0, none⟩) (Kd.R_far (p := ⟨gb713, 4, none⟩) (Kd.R_far (p := ⟨gb713, 3, none⟩) (Kd.R_far (p := ⟨gb713, 2, none⟩) (Kd.R_far (p := ⟨gb713, 1, none⟩) (Kd.R_far (p := ⟨gb713, 0, none⟩) (Kd.R_far (p := ⟨gb712, 4, none⟩) (Kd.R_far (p := ⟨gb712, 3, none⟩) (Kd.R_far (p := ⟨gb712, 2, none⟩) (Kd.R_far (p := ⟨gb712, 1, none⟩) (Kd.R_far (p := ⟨gb712, 0, none⟩) (Kd.R_types (Kd.R_types (Kd.R_types HO732.out BK712.out (by decide)) BK713.out (by decide)) BK714.out (by decide)) (fun _ hk => hk.1.1.2) (.int .i64 t715)) (fun _ hk => hk.1.1.2) (.string t716)) (fun _ hk => hk.1.1.2) (.string t717)) (fun _ hk => hk.1.1.2) (.slice Ao31 t718.length co31)) (fun _ hk => hk.1.1.2) (.slice Ao33 t721.length co33)) (fun _ hk => hk.1.2) (.int .i64 t724)) (fun _ hk => hk.1.2) (.string t725)) (fun _ hk => hk.1.2) (.string t726)) (fun _ hk => hk.1.2) (.slice Ao38 t727.length co38)) (fun _ hk => hk.1.2) (.slice Ao40 t730.length co40)) (fun _ hk => hk.2) (.int .i64 t733)) (fun _ hk => hk.2) (.string t734)) (fun _ hk => hk.2) (.string t735)) (fun _ hk => hk.2) (.slice Ao45 t736.length co45)) (fun _ hk => hk.2) (.slice Ao47 t739.length co47)) (fun _ hk => ⟨hk.1.1.1.1.1.1.2, ⟨hk.1.1.1.1.1.2, ⟨hk.1.1.1.1.1.1.1, ⟨hk.1.1.1.1.2, hk.1.1.1.2⟩⟩⟩⟩)⟩
         have n4_ : Aside0 (Kd.R k49 49 (((((((((((((((w27.setCell ⟨gb712, 0, none⟩ (.int .i64 t715)).setCell ⟨gb712, 1, none⟩ (.string t716)).setCell ⟨gb712, 2, none⟩ (.string t717)).setCell ⟨gb712, 3, none⟩ (.slice Ao31 t718.length co31)).setCell ⟨gb712, 4, none⟩ (.slice Ao33 t721.length co33)).setCell ⟨gb713, 0, none⟩ (.int .i64 t724)).setCell ⟨gb713, 1, none⟩ (.string t725)).setCell ⟨gb713, 2, none⟩ (.string t726)).setCell ⟨gb713, 3, none⟩ (.slice Ao38 t727.length co38)).setCell ⟨gb713, 4, none⟩ (.slice Ao40 t730.length co40)).setCell ⟨gb714, 0, none⟩ (.int .i64 t733)).setCell ⟨gb714, 1, none⟩ (.string t734)).setCell ⟨gb714, 2, none⟩ (.string t735)).setCell ⟨gb714, 3, none⟩ (.slice Ao45 t736.length co45)).setCell ⟨gb714, 4, none⟩ (.slice Ao47 t739.length co47)) w.heap.size (fun k_ => some k_ ≠ (.slice Ao31 t718.length co31 : Value).ownBlock ∧ some k_ ≠ (.slice Ao33 t721.length co33 : Value).ownBlock ∧ some k_ ≠ (.slice Ao38 t727.length co38 : Value).ownBlock ∧ some k_ ≠ (.slice Ao40 t730.length co40 : Value).ownBlock ∧ some k_ ≠ (.slice Ao47 t739.length co47 : Value).ownBlock) (.slice Ao45 t736.length co45) t736) := ⟨by (with_reducible repeat (first | apply Kd.R_alloc | apply Kd.R_drewN | apply Kd.R_drew)); exact Kd.R_mono (Kd.R_far (p := ⟨gb714, 4, none⟩) (Kd.R_far (p := ⟨gb714, 3, none⟩) (Kd.R_far (p := ⟨gb714, 2, none⟩) (Kd.R_far (p := ⟨gb714, 1, none⟩) (Kd.R_far (p := ⟨gb714, 0, none⟩) (Kd.R_far (p := ⟨gb713, 4, none⟩) (Kd.R_far (p := ⟨gb713, 3, none⟩) (Kd.R_far (p := ⟨gb713, 2, none⟩) (Kd.R_far (p := ⟨gb713, 1, none⟩) (Kd.R_far (p := ⟨gb713, 0, none⟩) (Kd.R_far (p := ⟨gb712, 4, none⟩) (Kd.R_far (p := ⟨gb712, 3, none⟩) (Kd.R_far (p := ⟨gb712, 2, none⟩) (Kd.R_far (p := ⟨gb712, 1, none⟩) (Kd.R_far (p := ⟨gb712, 0, none⟩) (Kd.R_types (Kd.R_types (Kd.R_types HO738.out BK712.out (by decide)) BK713.out (by decide)) BK714.out (by decide)) (fun _ hk => hk.1.1.2) (.int .i64 t715)) (fun _ hk => hk.1.1.2) (.string t716)) (fun _ hk => hk.1.1.2) (.string t717)) (fun _ hk => hk.1.1.2) (.slice Ao31 t718.length co31)) (fun _ hk => hk.1.1.2) (.slice Ao33 t721.length co33)) (fun _ hk => hk.1.2) (.int .i64 t724)) (fun _ hk => hk.1.2) (.string t725)) (fun _ hk => hk.1.2) (.string t726)) (fun _ hk => hk.1.2) (.slice Ao38 t727.length co38)) (fun _ hk => hk.1.2) (.slice Ao40 t730.length co40)) (fun _ hk => hk.2) (.int .i64 t733)) (fun _ hk => hk.2) (.string t734)) (fun _ hk => hk.2) (.string t735)) (fun _ hk => hk.2) (.slice Ao45 t736.length co45)) (fun _ hk => hk.2) (.slice Ao47 t739.length co47)) (fun _ hk => ⟨hk.1.1.1.1.1.1.2, ⟨hk.1.1.1.1.1.2, ⟨hk.1.1.1.1.2, ⟨hk.1.1.1.2, hk.1.1.1.1.1.1.1⟩⟩⟩⟩)⟩
         have n5_ : Aside0 (Kd.R k49 49 (((((((((((((((w27.setCell ⟨gb712, 0, none⟩ (.int .i64 t715)).setCell ⟨gb712, 1, none⟩ (.string t716)).setCell ⟨gb712, 2, none⟩ (.string t717)).setCell ⟨gb712, 3, none⟩ (.slice Ao31 t718.length co31)).setCell ⟨gb712, 4, none⟩ (.slice Ao33 t721.length co33)).setCell ⟨gb713, 0, none⟩ (.int .i64 t724)).setCell ⟨gb713, 1, none⟩ (.string t725)).setCell ⟨gb713, 2, none⟩ (.string t726)).setCell ⟨gb713, 3, none⟩ (.slice Ao38 t727.length co38)).setCell ⟨gb713, 4, none⟩ (.slice Ao40 t730.length co40)).setCell ⟨gb714, 0, none⟩ (.int .i64 t733)).setCell ⟨gb714, 1, none⟩ (.string t734)).setCell ⟨gb714, 2, none⟩ (.string t735)).setCell ⟨gb714, 3, none⟩ (.slice Ao45 t736.length co45)).setCell ⟨gb714, 4, none⟩ (.slice Ao47 t739.length co47)) w.heap.size (fun k_ => some k_ ≠ (.slice Ao31 t718.length co31 : Value).ownBlock ∧ some k_ ≠ (.slice Ao33 t721.length co33 : Value).ownBlock ∧ some k_ ≠ (.slice Ao38 t727.length co38 : Value).ownBlock ∧ some k_ ≠ (.slice Ao40 t730.length co40 : Value).ownBlock ∧ some k_ ≠ (.slice Ao45 t736.length co45 : Value).ownBlock) (.slice Ao47 t739.length co47) t739) := ⟨by (with_reducible repeat (first | apply Kd.R_alloc | apply Kd.R_drewN | apply Kd.R_drew)); exact Kd.R_mono (Kd.R_far (p := ⟨gb714, 4, none⟩) (Kd.R_far (p := ⟨gb714, 3, none⟩) (Kd.R_far (p := ⟨gb714, 2, none⟩) (Kd.R_far (p := ⟨gb714, 1, none⟩) (Kd.R_far (p := ⟨gb714, 0, none⟩) (Kd.R_far (p := ⟨gb713, 4, none⟩) (Kd.R_far (p := ⟨gb713, 3, none⟩) (Kd.R_far (p := ⟨gb713, 2, none⟩) (Kd.R_far (p := ⟨gb713, 1, none⟩) (Kd.R_far (p := ⟨gb713, 0, none⟩) (Kd.R_far (p := ⟨gb712, 4, none⟩) (Kd.R_far (p := ⟨gb712, 3, none⟩) (Kd.R_far (p := ⟨gb712, 2, none⟩) (Kd.R_far (p := ⟨gb712, 1, none⟩) (Kd.R_far (p := ⟨gb712, 0, none⟩) (Kd.R_types (Kd.R_types (Kd.R_types HO741.out BK712.out (by decide)) BK713.out (by decide)) BK714.out (by decide)) (fun _ hk => hk.1.1.2) (.int .i64 t715)) (fun _ hk => hk.1.1.2) (.string t716)) (fun _ hk => hk.1.1.2) (.string t717)) (fun _ hk => hk.1.1.2) (.slice Ao31 t718.length co31)) (fun _ hk => hk.1.1.2) (.slice Ao33 t721.length co33)) (fun _ hk => hk.1.2) (.int .i64 t724)) (fun _ hk => hk.1.2) (.string t725)) (fun _ hk => hk.1.2) (.string t726)) (fun _ hk => hk.1.2) (.slice Ao38 t727.length co38)) (fun _ hk => hk.1.2) (.slice Ao40 t730.length co40)) (fun _ hk => hk.2) (.int .i64 t733)) (fun _ hk => hk.2) (.string t734)) (fun _ hk => hk.2) (.string t735)) (fun _ hk => hk.2) (.slice Ao45 t736.length co45)) (fun _ hk => hk.2) (.slice Ao47 t739.length co47)) (fun _ hk => ⟨hk.1.1.1.1.1.1.2, ⟨hk.1.1.1.1.1.2, ⟨hk.1.1.1.1.2, ⟨hk.1.1.1.2, hk.1.1.1.1.1.1.1⟩⟩⟩⟩)⟩
         have n6_ : Aside0 ((((((((((((((((w27.setCell ⟨gb712, 0, none⟩ (.int .i64 t715)).setCell ⟨gb712, 1, none⟩ (.string t716)).setCell ⟨gb712, 2, none⟩ (.string t717)).setCell ⟨gb712, 3, none⟩ (.slice Ao31 t718.length co31)).setCell ⟨gb712, 4, none⟩ (.slice Ao33 t721.length co33)).setCell ⟨gb713, 0, none⟩ (.int .i64 t724)).setCell ⟨gb713, 1, none⟩ (.string t725)).setCell ⟨gb713, 2, none⟩ (.string t726)).setCell ⟨gb713, 3, none⟩ (.slice Ao38 t727.length co38)).setCell ⟨gb713, 4, none⟩ (.slice Ao40 t730.length co40)).setCell ⟨gb714, 0, none⟩ (.int .i64 t733)).setCell ⟨gb714, 1, none⟩ (.string t734)).setCell ⟨gb714, 2, none⟩ (.string t735)).setCell ⟨gb714, 3, none⟩ (.slice Ao45 t736.length co45)).setCell ⟨gb714, 4, none⟩ (.slice Ao47 t739.length co47)).heap[gb712]? = some (.cells #[.int .i64 t715, .string t716, .string t717, .slice Ao31 t718.length co31, .slice Ao33 t721.length co33] 26 (0, 0))) := ⟨by (with_reducible repeat (first | refine blk_drewN ?_ _ | refine blk_drew ?_ | refine blk_alloc ?_ _)); refine blk_far ?_ NB712_714.out _; (with_reducible repeat (first | refine blk_drewN ?_ _ | refine blk_drew ?_ | refine blk_alloc ?_ _)); refine blk_far ?_ NB712_714.out _; (with_reducible repeat (first | refine blk_drewN ?_ _ | refine blk_drew ?_ | refine blk_alloc ?_ _)); refine blk_far ?_ NB712_714.out _; (with_reducible repeat (first | refine blk_drewN ?_ _ | refine blk_drew ?_ | refine blk_alloc ?_ _)); refine blk_far ?_ NB712_714.out _; (with_reducible repeat (first | refine blk_drewN ?_ _ | refine blk_drew ?_ | refine blk_alloc ?_ _)); refine blk_far ?_ NB712_714.out _; (with_reducible repeat (first | refine blk_drewN ?_ _ | refine blk_drew ?_ | refine blk_alloc ?_ _)); refine blk_far ?_ NB712_713.out _; (with_reducible repeat (first | refine blk_drewN ?_ _ | refine blk_drew ?_ | refine blk_alloc ?_ _)); refine blk_far ?_ NB712_713.out _; (with_reducible repeat (first | refine blk_drewN ?_ _ | refine blk_drew ?_ | refine blk_alloc ?_ _)); refine blk_far ?_ NB712_713.out _; (with_reducible repeat (first | refine blk_drewN ?_ _ | refine blk_drew ?_ | refine blk_alloc ?_ _)); refine blk_far ?_ NB712_713.out _; (with_reducible repeat (first | refine blk_drewN ?_ _ | refine blk_drew ?_ | refine blk_alloc ?_ _)); refine blk_far ?_ NB712_713.out _; (with_reducible repeat (first | refine blk_drewN ?_ _ | refine blk_drew ?_ | refine blk_alloc ?_ _)); refine blk_put (cs := #[.int .i64 t715, .string t716, .string t717, .slice Ao31 t718.length co31, .slice A0_4 l0_4.length c0_4]) ?_ 4 _ rfl; (with_reducible repeat (first | refine blk_drewN ?_ _ | refine blk_drew ?_ | refine blk_alloc ?_ _)); refine blk_put (cs := #[.int .i64 t715, .string t716, .string t717, .slice A0_3 l0_3.length c0_3, .slice A0_4 l0_4.length c0_4]) ?_ 3 _ rfl; (with_reducible repeat (first | refine blk_drewN ?_ _ | refine blk_drew ?_ | refine blk_alloc ?_ _)); refine blk_put (cs := #[.int .i64 t715, .string t716, .string a0_2, .slice A0_3 l0_3.length c0_3, .slice A0_4 l0_4.length c0_4]) ?_ 2 _ rfl; (with_reducible repeat (first | refine blk_drewN ?_ _ | refine blk_drew ?_ | refine blk_alloc ?_ _)); refine blk_put (cs := #[.int .i64 t715, .string a0_1, .string a0_2, .slice A0_3 l0_3.length c0_3, .slice A0_4 l0_4.length c0_4]) ?_ 1 _ rfl; (with_reducible repeat (first | refine blk_drewN ?_ _ | refine blk_drew ?_ | refine blk_alloc ?_ _)); refine blk_put (cs := #[.int .i64 a0_0, .string a0_1, .string a0_2, .slice A0_3 l0_3.length c0_3, .slice A0_4 l0_4.length c0_4]) ?_ 0 _ rfl; (with_reducible repeat (first | refine blk_drewN ?_ _ | refine blk_drew ?_ | refine blk_alloc ?_ _)); exact BK712.out⟩
         have n7_ : Aside0 ((((((((((((((((w27.setCell ⟨gb712, 0, none⟩ (.int .i64 t715)).setCell ⟨gb712, 1, none⟩ (.string t716)).setCell ⟨gb712, 2, none⟩ (.string t717)).setCell ⟨gb712, 3, none⟩ (.slice Ao31 t718.length co31)).setCell ⟨gb712, 4, none⟩ (.slice Ao33 t721.length co33)).setCell ⟨gb713, 0, none⟩ (.int .i64 t724)).setCell ⟨gb713, 1, none⟩ (.string t725)).setCell ⟨gb713, 2, none⟩ (.string t726)).setCell ⟨gb713, 3, none⟩ (.slice Ao38 t727.length co38)).setCell ⟨gb713, 4, none⟩ (.slice Ao40 t730.length co40)).setCell ⟨gb714, 0, none⟩ (.int .i64 t733)).setCell ⟨gb714, 1, none⟩ (.string t734)).setCell ⟨gb714, 2, none⟩ (.string t735)).setCell ⟨gb714, 3, none⟩ (.slice Ao45 t736.length co45)).setCell ⟨gb714, 4, none⟩ (.slice Ao47 t739.length co47)).heap[gb713]? = some (.cells #[.int .i64 t724, .string t725, .string t726, .slice Ao38 t727.length co38, .slice Ao40 t730.length co40] 26 (0, 0))) := ⟨by (with_reducible repeat (first | refine blk_drewN ?_ _ | refine blk_drew ?_ | refine blk_alloc ?_ _)); refine blk_far ?_ NB713_714.out _; (with_reducible repeat (first | refine blk_drewN ?_ _ | refine blk_drew ?_ | refine blk_alloc ?_ _)); refine blk_far ?_ NB713_714.out _; (with_reducible repeat (first | refine blk_drewN ?_ _ | refine blk_drew ?_ | refine blk_alloc ?_ _)); refine blk_far ?_ NB713_714.out _; (with_reducible repeat (first | refine blk_drewN ?_ _ | refine blk_drew ?_ | refine blk_alloc ?_ _)); refine blk_far ?_ NB713_714.out _; (with_reducible repeat (first | refine blk_drewN ?_ _ | refine blk_drew ?_ | refine blk_alloc ?_ _)); refine blk_far ?_ NB713_714.out _; (with_reducible repeat (first | refine blk_drewN ?_ _ | refine blk_drew ?_ | refine blk_alloc ?_ _)); refine blk_put (cs := #[.int .i64 t724, .string t725, .string t726, .slice Ao38 t727.length co38, .slice A1_4 l1_4.length c1_4]) ?_ 4 _ rfl; (with_reducible repeat (first | refine blk_drewN ?_ _ | refine blk_drew ?_ | refine blk_alloc ?_ _)); refine blk_put (cs := #[.int .i64 t724, .string t725, .string t726, .slice A1_3 l1_3.length c1_3, .slice A1_4 l1_4.length c1_4]) ?_ 3 _ rfl; (with_reducible repeat (first | refine blk_drewN ?_ _ | refine blk_drew ?_ | refine blk_alloc ?_ _)); refine blk_put (cs := #[.int .i64 t724, .string t725, .string a1_2, .slice A1_3 l1_3.length c1_3, .slice A1_4 l1_4.length c1_4]) ?_ 2 _ rfl; (with_reducible repeat (first | refine blk_drewN ?_ _ | refine blk_drew ?_ | refine blk_alloc ?_ _)); refine blk_put (cs := #[.int .i64 t724, .string a1_1, .string a1_2, .slice A1_3 l1_3.length c1_3, .slice A1_4 l1_4.length c1_4]) ?_ 1 _ rfl; (with_reducible repeat (first | refine blk_drewN ?_ _ | refine blk_drew ?_ | refine blk_alloc ?_ _)); refine blk_put (cs := #[.int .i64 a1_0, .string a1_1, .string a1_2, .slice A1_3 l1_3.length c1_3, .slice A1_4 l1_4.length c1_4]) ?_ 0 _ rfl; (with_reducible repeat (first | refine blk_drewN ?_ _ | refine blk_drew ?_ | refine blk_alloc ?_ _)); refine blk_far ?_ NB713_712.out _; (with_reducible repeat (first | refine blk_drewN ?_ _ | refine blk_drew ?_ | refine blk_alloc ?_ _)); refine blk_far ?_ NB713_712.out _; (with_reducible repeat (first | refine blk_drewN ?_ _ | refine blk_drew ?_ | refine blk_alloc ?_ _)); refine blk_far ?_ NB713_712.out _; (with_reducible repeat (first | refine blk_drewN ?_ _ | refine blk_drew ?_ | refine blk_alloc ?_ _)); refine blk_far ?_ NB713_712.out _; (with_reducible repeat (first | refine blk_drewN ?_ _ | refine blk_drew ?_ | refine blk_alloc ?_ _)); refine blk_far ?_ NB713_712.out _; (with_reducible repeat (first | refine blk_drewN ?_ _ | refine blk_drew ?_ | refine blk_alloc ?_ _)); exact BK713.out⟩
         have n8_ : Aside0 ((((((((((((((((w27.setCell ⟨gb712, 0, none⟩ (.int .i64 t715)).setCell ⟨gb712, 1, none⟩ (.string t716)).setCell ⟨gb712, 2, none⟩ (.string t717)).setCell ⟨gb712, 3, none⟩ (.slice Ao31 t718.length co31)).setCell ⟨gb712, 4, none⟩ (.slice Ao33 t721.length co33)).setCell ⟨gb713, 0, none⟩ (.int .i64 t724)).setCell ⟨gb713, 1, none⟩ (.string t725)).setCell ⟨gb713, 2, none⟩ (.string t726)).setCell ⟨gb713, 3, none⟩ (.slice Ao38 t727.length co38)).setCell ⟨gb713, 4, none⟩ (.slice Ao40 t730.length co40)).setCell ⟨gb714, 0, none⟩ (.int .i64 t733)).setCell ⟨gb714, 1, none⟩ (.string t734)).setCell ⟨gb714, 2, none⟩ (.string t735)).setCell ⟨gb714, 3, none⟩ (.slice Ao45 t736.length co45)).setCell ⟨gb714, 4, none⟩ (.slice Ao47 t739.length co47)).heap[gb714]? = some (.cells #[.int .i64 t733, .string t734, .string t735, .slice Ao45 t736.length co45, .slice Ao47 t739.length co47] 26 (0, 0))) := ⟨by (with_reducible repeat (first | refine blk_drewN ?_ _ | refine blk_drew ?_ | refine blk_alloc ?_ _)); refine blk_put (cs := #[.int .i64 t733, .string t734, .string t735, .slice Ao45 t736.length co45, .slice A2_4 l2_4.length c2_4]) ?_ 4 _ rfl; (with_reducible repeat (first | refine blk_drewN ?_ _ | refine blk_drew ?_ | refine blk_alloc ?_ _)); refine blk_put (cs := #[.int .i64 t733, .string t734, .string t735, .slice A2_3 l2_3.length c2_3, .slice A2_4 l2_4.length c2_4]) ?_ 3 _ rfl; (with_reducible repeat (first | refine blk_drewN ?_ _ | refine blk_drew ?_ | refine blk_alloc ?_ _)); refine blk_put (cs := #[.int .i64 t733, .string t734, .string a2_2, .slice A2_3 l2_3.length c2_3, .slice A2_4 l2_4.length c2_4]) ?_ 2 _ rfl; (with_reducible repeat (first | refine blk_drewN ?_ _ | refine blk_drew ?_ | refine blk_alloc ?_ _)); refine blk_put (cs := #[.int .i64 t733, .string a2_1, .string a2_2, .slice A2_3 l2_3.length c2_3, .slice A2_4 l2_4.length c2_4]) ?_ 1 _ rfl; (with_reducible repeat (first | refine blk_drewN ?_ _ | refine blk_drew ?_ | refine blk_alloc ?_ _)); refine blk_put (cs := #[.int .i64 a2_0, .string a2_1, .string a2_2, .slice A2_3 l2_3.length c2_3, .slice A2_4 l2_4.length c2_4]) ?_ 0 _ rfl; (with_reducible repeat (first | refine blk_drewN ?_ _ | refine blk_drew ?_ | refine blk_alloc ?_ _)); refine blk_far ?_ NB714_713.out _; (with_reducible repeat (first | refine blk_drewN ?_ _ | refine blk_drew ?_ | refine blk_alloc ?_ _)); refine blk_far ?_ NB714_713.out _; (with_reducible repeat (first | refine blk_drewN ?_ _ | refine blk_drew ?_ | refine blk_alloc ?_ _)); refine blk_far ?_ NB714_713.out _; (with_reducible repeat (first | refine blk_drewN ?_ _ | refine blk_drew ?_ | refine blk_alloc ?_ _)); refine blk_far ?_ NB714_713.out _; (with_reducible repeat (first | refine blk_drewN ?_ _ | refine blk_drew ?_ | refine blk_alloc ?_ _)); refine blk_far ?_ NB714_713.out _; (with_reducible repeat (first | refine blk_drewN ?_ _ | refine blk_drew ?_ | refine blk_alloc ?_ _)); refine blk_far ?_ NB714_712.out _; (with_reducible repeat (first | refine blk_drewN ?_ _ | refine blk_drew ?_ | refine blk_alloc ?_ _)); refine blk_far ?_ NB714_712.out _; (with_reducible repeat (first | refine blk_drewN ?_ _ | refine blk_drew ?_ | refine blk_alloc ?_ _)); refine blk_far ?_ NB714_712.out _; (with_reducible repeat (first | refine blk_drewN ?_ _ | refine blk_drew ?_ | refine blk_alloc ?_ _)); refine blk_far ?_ NB714_712.out _; (with_reducible repeat (first | refine blk_drewN ?_ _ | refine blk_drew ?_ | refine blk_alloc ?_ _)); refine blk_far ?_ NB714_712.out _; (with_reducible repeat (first | refine blk_drewN ?_ _ | refine blk_drew ?_ | refine blk_alloc ?_ _)); exact BK714.out⟩
         have n9_ : Aside0 (Below w.heap.size w (((((((((((((((w27.setCell ⟨gb712, 0, none⟩ (.int .i64 t715)).setCell ⟨gb712, 1, none⟩ (.string t716)).setCell ⟨gb712, 2, none⟩ (.string t717)).setCell ⟨gb712, 3, none⟩ (.slice Ao31 t718.length co31)).setCell ⟨gb712, 4, none⟩ (.slice Ao33 t721.length co33)).setCell ⟨gb713, 0, none⟩ (.int .i64 t724)).setCell ⟨gb713, 1, none⟩ (.string t725)).setCell ⟨gb713, 2, none⟩ (.string t726)).setCell ⟨gb713, 3, none⟩ (.slice Ao38 t727.length co38)).setCell ⟨gb713, 4, none⟩ (.slice Ao40 t730.length co40)).setCell ⟨gb714, 0, none⟩ (.int .i64 t733)).setCell ⟨gb714, 1, none⟩ (.string t734)).setCell ⟨gb714, 2, none⟩ (.string t735)).setCell ⟨gb714, 3, none⟩ (.slice Ao45 t736.length co45)).setCell ⟨gb714, 4, none⟩ (.slice Ao47 t739.length co47))) := ⟨bel_ HB.out⟩
         (try clear HO720)
         (try clear HO723)
         (try clear HO729)
         (try clear HO732)
         (try clear HO738)
         (try clear HO741)
         (try clear BK712)
         (try clear BK713)
         (try clear BK714)
         (try clear HB)
         generalize (((((((((((((((w27.setCell ⟨gb712, 0, none⟩ (.int .i64 t715)).setCell ⟨gb712, 1, none⟩ (.string t716)).setCell ⟨gb712, 2, none⟩ (.string t717)).setCell ⟨gb712, 3, none⟩ (.slice Ao31 t718.length co31)).setCell ⟨gb712, 4, none⟩ (.slice Ao33 t721.length co33)).setCell ⟨gb713, 0, none⟩ (.int .i64 t724)).setCell ⟨gb713, 1, none⟩ (.string t725)).setCell ⟨gb713, 2, none⟩ (.string t726)).setCell ⟨gb713, 3, none⟩ (.slice Ao38 t727.length co38)).setCell ⟨gb713, 4, none⟩ (.slice Ao40 t730.length co40)).setCell ⟨gb714, 0, none⟩ (.int .i64 t733)).setCell ⟨gb714, 1, none⟩ (.string t734)).setCell ⟨gb714, 2, none⟩ (.string t735)).setCell ⟨gb714, 3, none⟩ (.slice Ao45 t736.length co45)).setCell ⟨gb714, 4, none⟩ (.slice Ao47 t739.length co47)) = w49 at n0_ n1_ n2_ n3_ n4_ n5_ n6_ n7_ n8_ n9_ ⊢
         have HO720 := n0_
         have HO723 := n1_
         have HO729 := n2_
         have HO732 := n3_
         have HO738 := n4_
         have HO741 := n5_
         have BK712 := n6_
         have BK713 := n7_
         have BK714 := n8_
         have HB := n9_
         clear n0_ n1_ n2_ n3_ n4_ n5_ n6_ n7_ n8_ n9_
         have n0_ := am_ (Kd.R_drew HO720.out)
         have n1_ := am_ (Kd.R_drew HO723.out)
         have n2_ := am_ (Kd.R_drew HO729.out)
         have n3_ := am_ (Kd.R_drew HO732.out)
         have n4_ := am_ (Kd.R_drew HO738.out)
         have n5_ := am_ (Kd.R_drew HO741.out)
         have n6_ := am_ (blk_drew BK712.out)
         have n7_ := am_ (blk_drew BK713.out)
         have n8_ := am_ (blk_drew BK714.out)
         have n9_ := am_ (below_drew1 HB.out)
         clear HO720 HO723 HO729 HO732 HO738 HO741 BK712 BK713 BK714 HB
         have HO720 := n0_
         have HO723 := n1_
         have HO729 := n2_
         have HO732 := n3_
         have HO738 := n4_
         have HO741 := n5_
         have BK712 := n6_
         have BK713 := n7_
         have BK714 := n8_
         have HB := n9_
         clear n0_ n1_ n2_ n3_ n4_ n5_ n6_ n7_ n8_ n9_
         refine start_ (n := 12) (S := fun w' => w'.cell? ⟨gb712, 0, none⟩ = some (.int .i64 t715) ∧ w'.cell? ⟨gb712, 1, none⟩ = some (.string t716) ∧ w'.cell? ⟨gb712, 2, none⟩ = some (.string t717) ∧ w'.cell? ⟨gb712, 3, none⟩ = some (.slice Ao31 t718.length co31) ∧ w'.cell? ⟨gb712, 4, none⟩ = some (.slice Ao33 t721.length co33) ∧ w'.cell? ⟨gb713, 0, none⟩ = some (.int .i64 t724) ∧ w'.cell? ⟨gb713, 1, none⟩ = some (.string t725) ∧ w'.cell? ⟨gb713, 2, none⟩ = some (.string t726) ∧ w'.cell? ⟨gb713, 3, none⟩ = some (.slice Ao38 t727.length co38) ∧ w'.cell? ⟨gb713, 4, none⟩ = some (.slice Ao40 t730.length co40) ∧ w'.cell? ⟨gb714, 0, none⟩ = some (.int .i64 t733) ∧ w'.cell? ⟨gb714, 1, none⟩ = some (.string t734) ∧ w'.cell? ⟨gb714, 2, none⟩ = some (.string t735) ∧ w'.cell? ⟨gb714, 3, none⟩ = some (.slice Ao45 t736.length co45) ∧ w'.cell? ⟨gb714, 4, none⟩ = some (.slice Ao47 t739.length co47)) (ds := []) #[false, false, false, false, false, false, false, false, false, false, false, false] kr_ rfl rfl ⟨(blk_cell BK712.out 0).trans rfl, (blk_cell BK712.out 1).trans rfl, (blk_cell BK712.out 2).trans rfl, (blk_cell BK712.out 3).trans rfl, (blk_cell BK712.out 4).trans rfl, (blk_cell BK713.out 0).trans rfl, (blk_cell BK713.out 1).trans rfl, (blk_cell BK713.out 2).trans rfl, (blk_cell BK713.out 3).trans rfl, (blk_cell BK713.out 4).trans rfl, (blk_cell BK714.out 0).trans rfl, (blk_cell BK714.out 1).trans rfl, (blk_cell BK714.out 2).trans rfl, (blk_cell BK714.out 3).trans rfl, (blk_cell BK714.out 4).trans rfl⟩ (fun hHeld => ?_); refine with_tabW tolllaw06_RuleRanks_g1.tab2 tolllaw06_RuleRanks_g1.bits2 (fun HT_ HW_ => ?_)
         generalize w49.drew = w50 at HO720 HO723 HO729 HO732 HO738 HO741 BK712 BK713 BK714 HB hHeld ⊢
         refine take_ (i := 0) (N := some 16) (v := ?_) (a' := ?_) #[true, false, false, false, false, false, false, false, false, false, false, false] rfl rfl (take_ofW HT_.out HW_.out kr_) (fun _ _ _ h => h) (Or.inl ⟨by rfl, ?_⟩) hHeld ?_ ?_
         rotate_left
         ·rintro w' ⟨s0, s1, s2, s3, s4, s5, s6, s7, s8, s9, s10, s11, s12, s13, s14⟩
          go_simp
          with_reducible rfl
         rotate_left
         ·simp only [Act.put, sx_, s0_, s1_, i64_w, i32_w]
          rfl
         refine take_ (i := 1) (N := some 17) (v := ?_) (a' := ?_) #[true, true, false, false, false, false, false, false, false, false, false, false] rfl rfl (take_ofW HT_.out HW_.out kr_) (fun _ _ _ h => h) (Or.inl ⟨by rfl, ?_⟩) hHeld ?_ ?_
         rotate_left
         ·rintro w' ⟨s0, s1, s2, s3, s4, s5, s6, s7, s8, s9, s10, s11, s12, s13, s14⟩
          go_simp
          with_reducible rfl
         rotate_left
         ·simp only [Act.put, sx_, s0_, s1_, i64_w, i32_w]
          rfl
         refine take_ (i := 3) (N := some 19) (v := ?_) (a' := ?_) #[true, true, false, true, false, false, false, false, false, false, false, false] rfl rfl (take_ofW HT_.out HW_.out kr_) (fun _ _ _ h => h) (Or.inl ⟨by rfl, ?_⟩) hHeld ?_ ?_
         rotate_left
         ·rintro w' ⟨s0, s1, s2, s3, s4, s5, s6, s7, s8, s9, s10, s11, s12, s13, s14⟩
          go_simp
          with_reducible rfl
         rotate_left
         ·simp only [Act.put, sx_, s0_, s1_, i64_w, i32_w]
          rfl
         refine take_ (i := 4) (N := some 20) (v := ?_) (a' := ?_) #[true, true, false, true, true, false, false, false, false, false, false, false] rfl rfl (take_ofW HT_.out HW_.out kr_) (fun _ _ _ h => h) (Or.inl ⟨by rfl, ?_⟩) hHeld ?_ ?_
         rotate_left
         ·rintro w' ⟨s0, s1, s2, s3, s4, s5, s6, s7, s8, s9, s10, s11, s12, s13, s14⟩
          go_simp
          with_reducible rfl
         rotate_left
         ·simp only [Act.put, sx_, s0_, s1_, i64_w, i32_w]
          rfl
         refine take_ (i := 6) (N := some 22) (v := ?_) (a' := ?_) #[true, true, false, true, true, false, true, false, false, false, false, false] rfl rfl (take_ofW HT_.out HW_.out kr_) (fun _ _ _ h => h) (Or.inl ⟨by rfl, ?_⟩) hHeld ?_ ?_
         rotate_left
         ·rintro w' ⟨s0, s1, s2, s3, s4, s5, s6, s7, s8, s9, s10, s11, s12, s13, s14⟩
          go_simp
          with_reducible rfl
         rotate_left
         ·simp only [Act.put, sx_, s0_, s1_, i64_w, i32_w]
          rfl
         refine take_ (i := 7) (N := some 23) (v := ?_) (a' := ?_) #[true, true, false, true, true, false, true, true, false, false, false, false] rfl rfl (take_ofW HT_.out HW_.out kr_) (fun _ _ _ h => h) (Or.inl ⟨by rfl, ?_⟩) hHeld ?_ ?_
         rotate_left
         ·rintro w' ⟨s0, s1, s2, s3, s4, s5, s6, s7, s8, s9, s10, s11, s12, s13, s14⟩
          go_simp
          with_reducible rfl
         rotate_left
         ·simp only [Act.put, sx_, s0_, s1_, i64_w, i32_w]
          rfl
         refine one_ (i := 2) (N := some 18) #[true, true, true, true, true, false, true, true, false, false, false, false] rfl rfl (one_of HT_.out kr_) (by decide) (fun K hK => ?_)
         refine goes_ Tryd.func19 kr_ rfl #[.agg #[.int .i64 t715, .string t716, .string t717, .slice Ao31 t718.length co31, .slice Ao33 t721.length co33], .agg #[.int .i64 t724, .string t725, .string t726, .slice Ao38 t727.length co38, .slice Ao40 t730.length co40]] (by rfl) rfl rfl rl_ ?_
         with_reducible refine (rule_Order.calls t715 t716 t717 _ _ t718 _ _ t721 t724 t725 t726 _ _ t727 _ _ t730 t742 _ ?side1 ?side2 ?side3 ?side4 ?side5 ?side6 ?side7 ?side8 A7.out).mono ?_
         (case side1 => exact C_ (Kd.R_reads' HO720.out).2.2)
         (case side2 => exact (Kd.R_reads' HO720.out).2.1)
         (case side3 => exact C_ (Kd.R_reads' HO723.out).2.2)
         (case side4 => exact (Kd.R_reads' HO723.out).2.1)
         (case side5 => exact C_ (Kd.R_reads' HO729.out).2.2)
         (case side6 => exact (Kd.R_reads' HO729.out).2.1)
         (case side7 => exact C_ (Kd.R_reads' HO732.out).2.2)
         (case side8 => exact (Kd.R_reads' HO732.out).2.1)
         rintro e w51 ⟨rfl, hb⟩
         refine ⟨_, rfl, ?_⟩
         have n0_ := am_ (Kd.R_below (R_ HO720.out) hb)
         have n1_ := am_ (Kd.R_below (R_ HO723.out) hb)
         have n2_ := am_ (Kd.R_below (R_ HO729.out) hb)
         have n3_ := am_ (Kd.R_below (R_ HO732.out) hb)
         have n4_ := am_ (Kd.R_below (R_ HO738.out) hb)
         have n5_ := am_ (Kd.R_below (R_ HO741.out) hb)
         have n6_ := am_ (blk_below (g := gb712) (o := .cells #[.int .i64 t715, .string t716, .string t717, .slice Ao31 t718.length co31, .slice Ao33 t721.length co33] 26 (0, 0)) (blk_ BK712.out) hb)
         have n7_ := am_ (blk_below (g := gb713) (o := .cells #[.int .i64 t724, .string t725, .string t726, .slice Ao38 t727.length co38, .slice Ao40 t730.length co40] 26 (0, 0)) (blk_ BK713.out) hb)
         have n8_ := am_ (blk_below (g := gb714) (o := .cells #[.int .i64 t733, .string t734, .string t735, .slice Ao45 t736.length co45, .slice Ao47 t739.length co47] 26 (0, 0)) (blk_ BK714.out) hb)
         have n9_ := am_ (below_step (bel_ HB.out) hb)
         clear HO720 HO723 HO729 HO732 HO738 HO741 BK712 BK713 BK714 HB
         have HO720 := n0_
         have HO723 := n1_
         have HO729 := n2_
         have HO732 := n3_
         have HO738 := n4_
         have HO741 := n5_
         have BK712 := n6_
         have BK713 := n7_
         have BK714 := n8_
         have HB := n9_
         clear n0_ n1_ n2_ n3_ n4_ n5_ n6_ n7_ n8_ n9_
         (try clear hb)
         (try clear hb2)
         (try clear hk)
         (try clear hi)
         refine hK.out _ _ ⟨(blk_cell BK712.out 0).trans rfl, (blk_cell BK712.out 1).trans rfl, (blk_cell BK712.out 2).trans rfl, (blk_cell BK712.out 3).trans rfl, (blk_cell BK712.out 4).trans rfl, (blk_cell BK713.out 0).trans rfl, (blk_cell BK713.out 1).trans rfl, (blk_cell BK713.out 2).trans rfl, (blk_cell BK713.out 3).trans rfl, (blk_cell BK713.out 4).trans rfl, (blk_cell BK714.out 0).trans rfl, (blk_cell BK714.out 1).trans rfl, (blk_cell BK714.out 2).trans rfl, (blk_cell BK714.out 3).trans rfl, (blk_cell BK714.out 4).trans rfl⟩ (fun hHeld => ?_)
         clear hK K
         refine norm_ (a' := ?_) ?_ ?_
         rotate_left
         ·show Act.put _ (some 18) _ = _
          simp only [Act.put, sx_, s0_, s1_, i64_w, i32_w]
          rfl
         refine one_ (i := 5) (N := some 21) #[true, true, true, true, true, true, true, true, false, false, false, false] rfl rfl (one_of HT_.out kr_) (by decide) (fun K hK => ?_)
         refine goes_ Tryd.func19 kr_ rfl #[.agg #[.int .i64 t724, .string t725, .string t726, .slice Ao38 t727.length co38, .slice Ao40 t730.length co40], .agg #[.int .i64 t733, .string t734, .string t735, .slice Ao45 t736.length co45, .slice Ao47 t739.length co47]] (by rfl) rfl rfl rl_ ?_
         with_reducible refine (rule_Order.calls t724 t725 t726 _ _ t727 _ _ t730 t733 t734 t735 _ _ t736 _ _ t739 t743 _ ?side1 ?side2 ?side3 ?side4 ?side5 ?side6 ?side7 ?side8 A8.out).mono ?_
         (case side1 => exact C_ (Kd.R_reads' HO729.out).2.2)
         (case side2 => exact (Kd.R_reads' HO729.out).2.1)
         (case side3 => exact C_ (Kd.R_reads' HO732.out).2.2)
         (case side4 => exact (Kd.R_reads' HO732.out).2.1)
         (case side5 => exact C_ (Kd.R_reads' HO738.out).2.2)
         (case side6 => exact (Kd.R_reads' HO738.out).2.1)
         (case side7 => exact C_ (Kd.R_reads' HO741.out).2.2)
         (case side8 => exact (Kd.R_reads' HO741.out).2.1)
         rintro e w52 ⟨rfl, hb⟩
         refine ⟨_, rfl, ?_⟩
         have n0_ := am_ (Kd.R_below (R_ HO720.out) hb)
         have n1_ := am_ (Kd.R_below (R_ HO723.out) hb)
         have n2_ := am_ (Kd.R_below (R_ HO729.out) hb)
         have n3_ := am_ (Kd.R_below (R_ HO732.out) hb)
         have n4_ := am_ (Kd.R_below (R_ HO738.out) hb)
         have n5_ := am_ (Kd.R_below (R_ HO741.out) hb)
         have n6_ := am_ (blk_below (g := gb712) (o := .cells #[.int .i64 t715, .string t716, .string t717, .slice Ao31 t718.length co31, .slice Ao33 t721.length co33] 26 (0, 0)) (blk_ BK712.out) hb)
         have n7_ := am_ (blk_below (g := gb713) (o := .cells #[.int .i64 t724, .string t725, .string t726, .slice Ao38 t727.length co38, .slice Ao40 t730.length co40] 26 (0, 0)) (blk_ BK713.out) hb)
         have n8_ := am_ (blk_below (g := gb714) (o := .cells #[.int .i64 t733, .string t734, .string t735, .slice Ao45 t736.length co45, .slice Ao47 t739.length co47] 26 (0, 0)) (blk_ BK714.out) hb)
         have n9_ := am_ (below_step (bel_ HB.out) hb)
         clear HO720 HO723 HO729 HO732 HO738 HO741 BK712 BK713 BK714 HB
         have HO720 := n0_
         have HO723 := n1_
         have HO729 := n2_
         have HO732 := n3_
         have HO738 := n4_
         have HO741 := n5_
         have BK712 := n6_
         have BK713 := n7_
         have BK714 := n8_
         have HB := n9_
         clear n0_ n1_ n2_ n3_ n4_ n5_ n6_ n7_ n8_ n9_
         (try clear hb)
         (try clear hb2)
         (try clear hk)
         (try clear hi)
         refine hK.out _ _ ⟨(blk_cell BK712.out 0).trans rfl, (blk_cell BK712.out 1).trans rfl, (blk_cell BK712.out 2).trans rfl, (blk_cell BK712.out 3).trans rfl, (blk_cell BK712.out 4).trans rfl, (blk_cell BK713.out 0).trans rfl, (blk_cell BK713.out 1).trans rfl, (blk_cell BK713.out 2).trans rfl, (blk_cell BK713.out 3).trans rfl, (blk_cell BK713.out 4).trans rfl, (blk_cell BK714.out 0).trans rfl, (blk_cell BK714.out 1).trans rfl, (blk_cell BK714.out 2).trans rfl, (blk_cell BK714.out 3).trans rfl, (blk_cell BK714.out 4).trans rfl⟩ (fun hHeld => ?_)
         clear hK K
         refine norm_ (a' := ?_) ?_ ?_
         rotate_left
         ·show Act.put _ (some 21) _ = _
          simp only [Act.put, sx_, s0_, s1_, i64_w, i32_w]
          rfl
         refine one_ (i := 8) (N := some 24) #[true, true, true, true, true, true, true, true, true, false, false, false] rfl rfl (one_of HT_.out kr_) (by decide) (fun K hK => ?_)
         refine goes_ Tryd.func19 kr_ rfl #[.agg #[.int .i64 t715, .string t716, .string t717, .slice Ao31 t718.length co31, .slice Ao33 t721.length co33], .agg #[.int .i64 t733, .string t734, .string t735, .slice Ao45 t736.length co45, .slice Ao47 t739.length co47]] (by rfl) rfl rfl rl_ ?_
         with_reducible refine (rule_Order.calls t715 t716 t717 _ _ t718 _ _ t721 t733 t734 t735 _ _ t736 _ _ t739 t744 _ ?side1 ?side2 ?side3 ?side4 ?side5 ?side6 ?side7 ?side8 A9.out).mono ?_
         (case side1 => exact C_ (Kd.R_reads' HO720.out).2.2)
         (case side2 => exact (Kd.R_reads' HO720.out).2.1)
         (case side3 => exact C_ (Kd.R_reads' HO723.out).2.2)
         (case side4 => exact (Kd.R_reads' HO723.out).2.1)
         (case side5 => exact C_ (Kd.R_reads' HO738.out).2.2)
         (case side6 => exact (Kd.R_reads' HO738.out).2.1)
         (case side7 => exact C_ (Kd.R_reads' HO741.out).2.2)
         (case side8 => exact (Kd.R_reads' HO741.out).2.1)
         rintro e w53 ⟨rfl, hb⟩
         refine ⟨_, rfl, ?_⟩
         have n0_ := am_ (Kd.R_below (R_ HO720.out) hb)
         have n1_ := am_ (Kd.R_below (R_ HO723.out) hb)
         have n2_ := am_ (Kd.R_below (R_ HO729.out) hb)
         have n3_ := am_ (Kd.R_below (R_ HO732.out) hb)
         have n4_ := am_ (Kd.R_below (R_ HO738.out) hb)
         have n5_ := am_ (Kd.R_below (R_ HO741.out) hb)
         have n6_ := am_ (blk_below (g := gb712) (o := .cells #[.int .i64 t715, .string t716, .string t717, .slice Ao31 t718.length co31, .slice Ao33 t721.length co33] 26 (0, 0)) (blk_ BK712.out) hb)
         have n7_ := am_ (blk_below (g := gb713) (o := .cells #[.int .i64 t724, .string t725, .string t726, .slice Ao38 t727.length co38, .slice Ao40 t730.length co40] 26 (0, 0)) (blk_ BK713.out) hb)
         have n8_ := am_ (blk_below (g := gb714) (o := .cells #[.int .i64 t733, .string t734, .string t735, .slice Ao45 t736.length co45, .slice Ao47 t739.length co47] 26 (0, 0)) (blk_ BK714.out) hb)
         have n9_ := am_ (below_step (bel_ HB.out) hb)
         clear HO720 HO723 HO729 HO732 HO738 HO741 BK712 BK713 BK714 HB
         have HO720 := n0_
         have HO723 := n1_
         have HO729 := n2_
         have HO732 := n3_
         have HO738 := n4_
         have HO741 := n5_
         have BK712 := n6_
         have BK713 := n7_
         have BK714 := n8_
         have HB := n9_
         clear n0_ n1_ n2_ n3_ n4_ n5_ n6_ n7_ n8_ n9_
         (try clear hb)
         (try clear hb2)
         (try clear hk)
         (try clear hi)
         refine hK.out _ _ ⟨(blk_cell BK712.out 0).trans rfl, (blk_cell BK712.out 1).trans rfl, (blk_cell BK712.out 2).trans rfl, (blk_cell BK712.out 3).trans rfl, (blk_cell BK712.out 4).trans rfl, (blk_cell BK713.out 0).trans rfl, (blk_cell BK713.out 1).trans rfl, (blk_cell BK713.out 2).trans rfl, (blk_cell BK713.out 3).trans rfl, (blk_cell BK713.out 4).trans rfl, (blk_cell BK714.out 0).trans rfl, (blk_cell BK714.out 1).trans rfl, (blk_cell BK714.out 2).trans rfl, (blk_cell BK714.out 3).trans rfl, (blk_cell BK714.out 4).trans rfl⟩ (fun hHeld => ?_)
         clear hK K
         refine norm_ (a' := ?_) ?_ ?_
         rotate_left
         ·show Act.put _ (some 24) _ = _
          simp only [Act.put, sx_, s0_, s1_, i64_w, i32_w]
          rfl
         refine pure_ (i := 9) (N := some 7) (v := ?_) (a' := ?_) #[true, true, true, true, true, true, true, true, true, true, false, false] rfl rfl (any_of HT_.out kr_) (fun _ _ _ h => h) (Or.inl ⟨by rfl, ?_⟩) ?_ ?_
         rotate_left
         ·intro w'
          go_simp
          with_reducible rfl
         rotate_left
         ·simp only [Act.put, sx_, s0_, s1_, i64_w, i32_w]
          rfl
         refine pure_ (i := 10) (N := some 8) (v := ?_) (a' := ?_) #[true, true, true, true, true, true, true, true, true, true, true, false] rfl rfl (any_of HT_.out kr_) (fun _ _ _ h => h) (Or.inl ⟨by rfl, ?_⟩) ?_ ?_
         rotate_left
         ·intro w'
          go_simp
          with_reducible rfl
         rotate_left
         ·simp only [Act.put, sx_, s0_, s1_, i64_w, i32_w]
          rfl
         refine pure_ (i := 11) (N := some 9) (v := ?_) (a' := ?_) #[true, true, true, true, true, true, true, true, true, true, true, true] rfl rfl (any_of HT_.out kr_) (fun _ _ _ h => h) (Or.inl ⟨by rfl, ?_⟩) ?_ ?_
         rotate_left
         ·intro w'
          go_simp
          with_reducible rfl
         rotate_left
         ·simp only [Act.put, sx_, s0_, s1_, i64_w, i32_w]
          rfl
         refine done_ (done_of HT_.out kr_) ?_
         have hnb54 := NB713_712.out
         have hnc54 := NB712_713.out
         have hnb55 := NB713_714.out
         have hnc55 := NB714_713.out
         have hcz56_0 : w53.cell? ⟨gb713, 0, none⟩ = some (.int .i64 t724) := (blk_cell BK713.out 0).trans rfl
         have hcz56_1 : w53.cell? ⟨gb713, 1, none⟩ = some (.string t725) := (blk_cell BK713.out 1).trans rfl
         have hcz56_2 : w53.cell? ⟨gb713, 2, none⟩ = some (.string t726) := (blk_cell BK713.out 2).trans rfl
         have hcz56_3 : w53.cell? ⟨gb713, 3, none⟩ = some (.slice Ao38 t727.length co38) := (blk_cell BK713.out 3).trans rfl
         have hcz56_4 : w53.cell? ⟨gb713, 4, none⟩ = some (.slice Ao40 t730.length co40) := (blk_cell BK713.out 4).trans rfl
         have hfz56_0 := blk_frozen BK713.out 0
         have hfz56_1 := blk_frozen BK713.out 1
         have hfz56_2 := blk_frozen BK713.out 2
         have hfz56_3 := blk_frozen BK713.out 3
         have hfz56_4 := blk_frozen BK713.out 4
         have hnb57 := NB712_714.out
         have hnc57 := NB714_712.out
         have hcz58_0 : w53.cell? ⟨gb712, 0, none⟩ = some (.int .i64 t715) := (blk_cell BK712.out 0).trans rfl
         have hcz58_1 : w53.cell? ⟨gb712, 1, none⟩ = some (.string t716) := (blk_cell BK712.out 1).trans rfl
         have hcz58_2 : w53.cell? ⟨gb712, 2, none⟩ = some (.string t717) := (blk_cell BK712.out 2).trans rfl
         have hcz58_3 : w53.cell? ⟨gb712, 3, none⟩ = some (.slice Ao31 t718.length co31) := (blk_cell BK712.out 3).trans rfl
         have hcz58_4 : w53.cell? ⟨gb712, 4, none⟩ = some (.slice Ao33 t721.length co33) := (blk_cell BK712.out 4).trans rfl
         have hfz58_0 := blk_frozen BK712.out 0
         have hfz58_1 := blk_frozen BK712.out 1
         have hfz58_2 := blk_frozen BK712.out 2
         have hfz58_3 := blk_frozen BK712.out 3
         have hfz58_4 := blk_frozen BK712.out 4
         try go_wp2_with (first | ((with_reducible refine gate_callee (f := 19) rfl ?_); refine goesL_ (some 27) rfl rfl Tryd.func19 kr_ rfl #[.agg #[.int .i64 t724, .string t725, .string t726, .slice Ao38 t727.length co38, .slice Ao40 t730.length co40], .agg #[.int .i64 t715, .string t716, .string t717, .slice Ao31 t718.length co31, .slice Ao33 t721.length co33]] rfl rl_ ?_; (with_reducible refine (rule_Order.calls t724 t725 t726 _ _ t727 _ _ t730 t715 t716 t717 _ _ t718 _ _ t721 t745 _ ?side1 ?side2 ?side3 ?side4 ?side5 ?side6 ?side7 ?side8 A10.out).mono ?_); (case side1 => exact C_ (Kd.R_reads' HO729.out).2.2); (case side2 => exact (Kd.R_reads' HO729.out).2.1); (case side3 => exact C_ (Kd.R_reads' HO732.out).2.2); (case side4 => exact (Kd.R_reads' HO732.out).2.1); (case side5 => exact C_ (Kd.R_reads' HO720.out).2.2); (case side6 => exact (Kd.R_reads' HO720.out).2.1); (case side7 => exact C_ (Kd.R_reads' HO723.out).2.2); (case side8 => exact (Kd.R_reads' HO723.out).2.1); rintro e w59 ⟨rfl, hb⟩; refine ⟨_, rfl, ?_⟩; have n0_ := am_ (Kd.R_below (R_ HO720.out) hb); have n1_ := am_ (Kd.R_below (R_ HO723.out) hb); have n2_ := am_ (Kd.R_below (R_ HO729.out) hb); have n3_ := am_ (Kd.R_below (R_ HO732.out) hb); have n4_ := am_ (Kd.R_below (R_ HO738.out) hb); have n5_ := am_ (Kd.R_below (R_ HO741.out) hb); have n6_ := am_ (blk_below (g := gb712) (o := .cells #[.int .i64 t715, .string t716, .string t717, .slice Ao31 t718.length co31, .slice Ao33 t721.length co33] 26 (0, 0)) (blk_ BK712.out) hb); have n7_ := am_ (blk_below (g := gb713) (o := .cells #[.int .i64 t724, .string t725, .string t726, .slice Ao38 t727.length co38, .slice Ao40 t730.length co40] 26 (0, 0)) (blk_ BK713.out) hb); have n8_ := am_ (blk_below (g := gb714) (o := .cells #[.int .i64 t733, .string t734, .string t735, .slice Ao45 t736.length co45, .slice Ao47 t739.length co47] 26 (0, 0)) (blk_ BK714.out) hb); have n9_ := am_ (below_step (bel_ HB.out) hb); clear HO720 HO723 HO729 HO732 HO738 HO741 BK712 BK713 BK714 HB; have HO720 := n0_; have HO723 := n1_; have HO729 := n2_; have HO732 := n3_; have HO738 := n4_; have HO741 := n5_; have BK712 := n6_; have BK713 := n7_; have BK714 := n8_; have HB := n9_; clear n0_ n1_ n2_ n3_ n4_ n5_ n6_ n7_ n8_ n9_; (try clear hb); (try clear hb2); (try clear hk); (try clear hi); have hcz60_0 : w59.cell? ⟨gb712, 0, none⟩ = some (.int .i64 t715) := (blk_cell BK712.out 0).trans rfl; have hcz60_1 : w59.cell? ⟨gb712, 1, none⟩ = some (.string t716) := (blk_cell BK712.out 1).trans rfl; have hcz60_2 : w59.cell? ⟨gb712, 2, none⟩ = some (.string t717) := (blk_cell BK712.out 2).trans rfl; have hcz60_3 : w59.cell? ⟨gb712, 3, none⟩ = some (.slice Ao31 t718.length co31) := (blk_cell BK712.out 3).trans rfl; have hcz60_4 : w59.cell? ⟨gb712, 4, none⟩ = some (.slice Ao33 t721.length co33) := (blk_cell BK712.out 4).trans rfl; have hfz60_0 := blk_frozen BK712.out 0; have hfz60_1 := blk_frozen BK712.out 1; have hfz60_2 := blk_frozen BK712.out 2; have hfz60_3 := blk_frozen BK712.out 3; have hfz60_4 := blk_frozen BK712.out 4) | (go_at_call 19; (with_reducible refine (rule_Order.calls t715 t716 t717 _ _ t718 _ _ t721 t715 t716 t717 _ _ t718 _ _ t721 t746 _ ?side1 ?side2 ?side3 ?side4 ?side5 ?side6 ?side7 ?side8 A12.out).mono ?_); (case side1 => exact C_ (Kd.R_reads' HO720.out).2.2); (case side2 => exact (Kd.R_reads' HO720.out).2.1); (case side3 => exact C_ (Kd.R_reads' HO723.out).2.2); (case side4 => exact (Kd.R_reads' HO723.out).2.1); (case side5 => exact C_ (Kd.R_reads' HO720.out).2.2); (case side6 => exact (Kd.R_reads' HO720.out).2.1); (case side7 => exact C_ (Kd.R_reads' HO723.out).2.2); (case side8 => exact (Kd.R_reads' HO723.out).2.1); rintro e w61 ⟨rfl, hb⟩; have n0_ := am_ (Kd.R_below (R_ HO720.out) hb); have n1_ := am_ (Kd.R_below (R_ HO723.out) hb); have n2_ := am_ (Kd.R_below (R_ HO729.out) hb); have n3_ := am_ (Kd.R_below (R_ HO732.out) hb); have n4_ := am_ (Kd.R_below (R_ HO738.out) hb); have n5_ := am_ (Kd.R_below (R_ HO741.out) hb); have n6_ := am_ (blk_below (g := gb712) (o := .cells #[.int .i64 t715, .string t716, .string t717, .slice Ao31 t718.length co31, .slice Ao33 t721.length co33] 26 (0, 0)) (blk_ BK712.out) hb); have n7_ := am_ (blk_below (g := gb713) (o := .cells #[.int .i64 t724, .string t725, .string t726, .slice Ao38 t727.length co38, .slice Ao40 t730.length co40] 26 (0, 0)) (blk_ BK713.out) hb); have n8_ := am_ (blk_below (g := gb714) (o := .cells #[.int .i64 t733, .string t734, .string t735, .slice Ao45 t736.length co45, .slice Ao47 t739.length co47] 26 (0, 0)) (blk_ BK714.out) hb); have n9_ := am_ (below_step (bel_ HB.out) hb); clear HO720 HO723 HO729 HO732 HO738 HO741 BK712 BK713 BK714 HB; have HO720 := n0_; have HO723 := n1_; have HO729 := n2_; have HO732 := n3_; have HO738 := n4_; have HO741 := n5_; have BK712 := n6_; have BK713 := n7_; have BK714 := n8_; have HB := n9_; clear n0_ n1_ n2_ n3_ n4_ n5_ n6_ n7_ n8_ n9_; (try clear hb); (try clear hb2); (try clear hk); (try clear hi)) | ((with_reducible refine gate_callee (f := 18) rfl ?_); refine goesL_ (some 73) rfl rfl Tryd.func18 kr_ rfl #[] rfl rl_ ?_; (with_reducible refine (tolllaw06_awake.calls  t749 _ A20.out).mono ?_); rintro e w62 ⟨rfl, hb⟩; refine ⟨_, rfl, ?_⟩; have n0_ := am_ (Kd.R_below (R_ HO720.out) hb); have n1_ := am_ (Kd.R_below (R_ HO723.out) hb); have n2_ := am_ (Kd.R_below (R_ HO729.out) hb); have n3_ := am_ (Kd.R_below (R_ HO732.out) hb); have n4_ := am_ (Kd.R_below (R_ HO738.out) hb); have n5_ := am_ (Kd.R_below (R_ HO741.out) hb); have n6_ := am_ (blk_below (g := gb712) (o := .cells #[.int .i64 t715, .string t716, .string t717, .slice Ao31 t718.length co31, .slice Ao33 t721.length co33] 26 (0, 0)) (blk_ BK712.out) hb); have n7_ := am_ (blk_below (g := gb713) (o := .cells #[.int .i64 t724, .string t725, .string t726, .slice Ao38 t727.length co38, .slice Ao40 t730.length co40] 26 (0, 0)) (blk_ BK713.out) hb); have n8_ := am_ (blk_below (g := gb714) (o := .cells #[.int .i64 t733, .string t734, .string t735, .slice Ao45 t736.length co45, .slice Ao47 t739.length co47] 26 (0, 0)) (blk_ BK714.out) hb); have n9_ := am_ (below_step (bel_ HB.out) hb); clear HO720 HO723 HO729 HO732 HO738 HO741 BK712 BK713 BK714 HB; have HO720 := n0_; have HO723 := n1_; have HO729 := n2_; have HO732 := n3_; have HO738 := n4_; have HO741 := n5_; have BK712 := n6_; have BK713 := n7_; have BK714 := n8_; have HB := n9_; clear n0_ n1_ n2_ n3_ n4_ n5_ n6_ n7_ n8_ n9_; (try clear hb); (try clear hb2); (try clear hk); (try clear hi)))
         go_ret
         exact ⟨fi_, bel_ HB.out⟩
      ·rw [if_neg c17] at H
       have c17b0 : decide (t742 < 0) = false := decide_eq_false c17
       clear c17
       by_cases c63 : t742 = 0
       ·rw [if_pos c63] at H
        have c63b0 : (t742 == 0) = true := beq_iff_eq.mpr c63
        have c63b1 : (t742 != 0) = false := bne_eq_false_iff_eq.mpr c63
        clear c63
        by_cases c64 : t743 = 0
        ·rw [if_pos c64] at H
         have c64b0 : (t743 == 0) = true := beq_iff_eq.mpr c64
         have c64b1 : (t743 != 0) = false := bne_eq_false_iff_eq.mpr c64
         clear c64
         by_cases c65 : t744 = 0
         ·rw [if_pos c65] at H
          have c65b0 : (t744 == 0) = true := beq_iff_eq.mpr c65
          have c65b1 : (t744 != 0) = false := bne_eq_false_iff_eq.mpr c65
          clear c65
          replace H := Option.bind_eq_some_iff.mp H
          obtain ⟨t750, A660, H⟩ := H
          replace H : (some t750) = some r := H
          have A66 := Aside0.mk A660
          clear A660
          obtain rfl := Option.some.inj H
          go_enter Tryd.func4, Tryd.ntmps4
          try go_wp2_with (first | ((with_reducible refine gate_dst (N := 3) rfl ?_); refine box_event ?hg (N := 3) ?hd (cs := #[.int .i64 a0_0, .string a0_1, .string a0_2, .slice A0_3 l0_3.length c0_3, .slice A0_4 l0_4.length c0_4]) (t := 26) ?hr ?_; (case hd => rfl); (case hg => rfl); (case hr => first | (go_simp; done) | (go_simp; rfl)); intro gb712 hg w67 hbox hb; have n0_ := am_ (below_step (bel_ HB.out) hb); have n1_ := am_ (hbox); have n2_ := am_ ((by rw [hg]; exact (below_size (bel_ HB.out)) : w.heap.size ≤ gb712)); have n3_ := am_ ((by rw [hg]; exact (below_size (bel_ HB.out)) : w.heap.size ≤ gb712)); clear HB; have HB := n0_; have BK712 := n1_; have GW712 := n2_; have GE712 := n3_; clear n0_ n1_ n2_ n3_ hb hbox hg) | ((with_reducible refine gate_dst (N := 4) rfl ?_); refine box_event ?hg (N := 4) ?hd (cs := #[.int .i64 a1_0, .string a1_1, .string a1_2, .slice A1_3 l1_3.length c1_3, .slice A1_4 l1_4.length c1_4]) (t := 26) ?hr ?_; (case hd => rfl); (case hg => rfl); (case hr => first | (go_simp; done) | (go_simp; rfl)); intro gb713 hg w68 hbox hb; have n0_ := am_ (blk_below (g := gb712) (o := .cells #[.int .i64 a0_0, .string a0_1, .string a0_2, .slice A0_3 l0_3.length c0_3, .slice A0_4 l0_4.length c0_4] 26 (0, 0)) (blk_ BK712.out) hb); have n1_ := am_ (below_step (bel_ HB.out) hb); have n2_ := am_ (hbox); have n3_ := am_ ((by rw [hg]; exact (below_size (bel_ HB.out)) : w.heap.size ≤ gb713)); have n4_ := am_ ((by rw [hg]; exact (below_size (bel_ HB.out)) : w.heap.size ≤ gb713)); have n5_ := am_ ((by rw [hg]; exact Nat.ne_of_lt (blk_lt (g := gb712) (o := .cells #[.int .i64 a0_0, .string a0_1, .string a0_2, .slice A0_3 l0_3.length c0_3, .slice A0_4 l0_4.length c0_4] 26 (0, 0)) (blk_ BK712.out)) : gb712 ≠ gb713)); have n6_ := am_ ((by rw [hg]; exact Nat.ne_of_gt (blk_lt (g := gb712) (o := .cells #[.int .i64 a0_0, .string a0_1, .string a0_2, .slice A0_3 l0_3.length c0_3, .slice A0_4 l0_4.length c0_4] 26 (0, 0)) (blk_ BK712.out)) : gb713 ≠ gb712)); clear BK712 HB; have BK712 := n0_; have HB := n1_; have BK713 := n2_; have GW713 := n3_; have GE713 := n4_; have NB712_713 := n5_; have NB713_712 := n6_; clear n0_ n1_ n2_ n3_ n4_ n5_ n6_ hb hbox hg) | ((with_reducible refine gate_dst (N := 5) rfl ?_); refine box_event ?hg (N := 5) ?hd (cs := #[.int .i64 a2_0, .string a2_1, .string a2_2, .slice A2_3 l2_3.length c2_3, .slice A2_4 l2_4.length c2_4]) (t := 26) ?hr ?_; (case hd => rfl); (case hg => rfl); (case hr => first | (go_simp; done) | (go_simp; rfl)); intro gb714 hg w69 hbox hb; have n0_ := am_ (blk_below (g := gb712) (o := .cells #[.int .i64 a0_0, .string a0_1, .string a0_2, .slice A0_3 l0_3.length c0_3, .slice A0_4 l0_4.length c0_4] 26 (0, 0)) (blk_ BK712.out) hb); have n1_ := am_ (blk_below (g := gb713) (o := .cells #[.int .i64 a1_0, .string a1_1, .string a1_2, .slice A1_3 l1_3.length c1_3, .slice A1_4 l1_4.length c1_4] 26 (0, 0)) (blk_ BK713.out) hb); have n2_ := am_ (below_step (bel_ HB.out) hb); have n3_ := am_ (hbox); have n4_ := am_ ((by rw [hg]; exact (below_size (bel_ HB.out)) : w.heap.size ≤ gb714)); have n5_ := am_ ((by rw [hg]; exact (below_size (bel_ HB.out)) : w.heap.size ≤ gb714)); have n6_ := am_ ((by rw [hg]; exact Nat.ne_of_lt (blk_lt (g := gb712) (o := .cells #[.int .i64 a0_0, .string a0_1, .string a0_2, .slice A0_3 l0_3.length c0_3, .slice A0_4 l0_4.length c0_4] 26 (0, 0)) (blk_ BK712.out)) : gb712 ≠ gb714)); have n7_ := am_ ((by rw [hg]; exact Nat.ne_of_gt (blk_lt (g := gb712) (o := .cells #[.int .i64 a0_0, .string a0_1, .string a0_2, .slice A0_3 l0_3.length c0_3, .slice A0_4 l0_4.length c0_4] 26 (0, 0)) (blk_ BK712.out)) : gb714 ≠ gb712)); have n8_ := am_ ((by rw [hg]; exact Nat.ne_of_lt (blk_lt (g := gb713) (o := .cells #[.int .i64 a1_0, .string a1_1, .string a1_2, .slice A1_3 l1_3.length c1_3, .slice A1_4 l1_4.length c1_4] 26 (0, 0)) (blk_ BK713.out)) : gb713 ≠ gb714)); have n9_ := am_ ((by rw [hg]; exact Nat.ne_of_gt (blk_lt (g := gb713) (o := .cells #[.int .i64 a1_0, .string a1_1, .string a1_2, .slice A1_3 l1_3.length c1_3, .slice A1_4 l1_4.length c1_4] 26 (0, 0)) (blk_ BK713.out)) : gb714 ≠ gb713)); clear BK712 BK713 HB; have BK712 := n0_; have BK713 := n1_; have HB := n2_; have BK714 := n3_; have GW714 := n4_; have GE714 := n5_; have NB712_714 := n6_; have NB714_712 := n7_; have NB713_714 := n8_; have NB714_713 := n9_; clear n0_ n1_ n2_ n3_ n4_ n5_ n6_ n7_ n8_ n9_ hb hbox hg))
          have n0_ := am_ (blk_drew BK712.out)
          have n1_ := am_ (blk_drew BK713.out)
          have n2_ := am_ (blk_drew BK714.out)
          have n3_ := am_ (below_drew1 HB.out)
          clear BK712 BK713 BK714 HB
          have BK712 := n0_
          have BK713 := n1_
          have BK714 := n2_
          have HB := n3_
          clear n0_ n1_ n2_ n3_
          refine start_ (n := 9) (S := fun w' => w'.cell? ⟨gb712, 0, none⟩ = some (.int .i64 a0_0) ∧ w'.cell? ⟨gb712, 1, none⟩ = some (.string a0_1) ∧ w'.cell? ⟨gb712, 2, none⟩ = some (.string a0_2) ∧ w'.cell? ⟨gb712, 3, none⟩ = some (.slice A0_3 l0_3.length c0_3) ∧ w'.cell? ⟨gb712, 4, none⟩ = some (.slice A0_4 l0_4.length c0_4) ∧ w'.cell? ⟨gb713, 0, none⟩ = some (.int .i64 a1_0) ∧ w'.cell? ⟨gb713, 1, none⟩ = some (.string a1_1) ∧ w'.cell? ⟨gb713, 2, none⟩ = some (.string a1_2) ∧ w'.cell? ⟨gb713, 3, none⟩ = some (.slice A1_3 l1_3.length c1_3) ∧ w'.cell? ⟨gb713, 4, none⟩ = some (.slice A1_4 l1_4.length c1_4) ∧ w'.cell? ⟨gb714, 0, none⟩ = some (.int .i64 a2_0) ∧ w'.cell? ⟨gb714, 1, none⟩ = some (.string a2_1) ∧ w'.cell? ⟨gb714, 2, none⟩ = some (.string a2_2) ∧ w'.cell? ⟨gb714, 3, none⟩ = some (.slice A2_3 l2_3.length c2_3) ∧ w'.cell? ⟨gb714, 4, none⟩ = some (.slice A2_4 l2_4.length c2_4)) (ds := [6, 7, 8]) #[false, false, false, false, false, false, false, false, false] kr_ rfl rfl ⟨(blk_cell BK712.out 0).trans rfl, (blk_cell BK712.out 1).trans rfl, (blk_cell BK712.out 2).trans rfl, (blk_cell BK712.out 3).trans rfl, (blk_cell BK712.out 4).trans rfl, (blk_cell BK713.out 0).trans rfl, (blk_cell BK713.out 1).trans rfl, (blk_cell BK713.out 2).trans rfl, (blk_cell BK713.out 3).trans rfl, (blk_cell BK713.out 4).trans rfl, (blk_cell BK714.out 0).trans rfl, (blk_cell BK714.out 1).trans rfl, (blk_cell BK714.out 2).trans rfl, (blk_cell BK714.out 3).trans rfl, (blk_cell BK714.out 4).trans rfl⟩ (fun hHeld => ?_); refine with_tabW tolllaw06_RuleRanks_g1.tab1 tolllaw06_RuleRanks_g1.bits1 (fun HT_ HW_ => ?_)
          generalize w69.drew = w70 at BK712 BK713 BK714 HB hHeld ⊢
          refine take_ (i := 0) (N := some 10) (v := ?_) (a' := ?_) #[true, false, false, false, false, false, false, false, false] rfl rfl (take_ofW HT_.out HW_.out kr_) (fun _ _ _ h => h) (Or.inl ⟨by rfl, ?_⟩) hHeld ?_ ?_
          rotate_left
          ·rintro w' ⟨s0, s1, s2, s3, s4, s5, s6, s7, s8, s9, s10, s11, s12, s13, s14⟩
           go_simp
           with_reducible rfl
          rotate_left
          ·simp only [Act.put, sx_, s0_, s1_, i64_w, i32_w]
           rfl
          refine take_ (i := 2) (N := some 12) (v := ?_) (a' := ?_) #[true, false, true, false, false, false, false, false, false] rfl rfl (take_ofW HT_.out HW_.out kr_) (fun _ _ _ h => h) (Or.inl ⟨by rfl, ?_⟩) hHeld ?_ ?_
          rotate_left
          ·rintro w' ⟨s0, s1, s2, s3, s4, s5, s6, s7, s8, s9, s10, s11, s12, s13, s14⟩
           go_simp
           with_reducible rfl
          rotate_left
          ·simp only [Act.put, sx_, s0_, s1_, i64_w, i32_w]
           rfl
          refine take_ (i := 4) (N := some 14) (v := ?_) (a' := ?_) #[true, false, true, false, true, false, false, false, false] rfl rfl (take_ofW HT_.out HW_.out kr_) (fun _ _ _ h => h) (Or.inl ⟨by rfl, ?_⟩) hHeld ?_ ?_
          rotate_left
          ·rintro w' ⟨s0, s1, s2, s3, s4, s5, s6, s7, s8, s9, s10, s11, s12, s13, s14⟩
           go_simp
           with_reducible rfl
          rotate_left
          ·simp only [Act.put, sx_, s0_, s1_, i64_w, i32_w]
           rfl
          refine one_ (i := 1) (N := some 11) #[true, true, true, false, true, false, false, false, false] rfl rfl (one_of HT_.out kr_) (by decide) (fun K hK => ?_)
          refine goes_ Tryd.func9 kr_ rfl #[.agg #[.int .i64 a0_0, .string a0_1, .string a0_2, .slice A0_3 l0_3.length c0_3, .slice A0_4 l0_4.length c0_4]] (by rfl) rfl rfl rl_ ?_
          with_reducible refine (tolllaw06_Few.calls k a0_0 a0_1 a0_2 _ _ l0_3 _ _ l0_4 t715 t716 t717 t718 t721 _ ?side1 ?side2 ?side3 ?side4 A4.out).mono ?_
          (case side1 => exact C_ (Kd.C_below HR0_3.out HB.out))
          (case side2 => exact HC0_3.out)
          (case side3 => exact C_ (Kd.C_below HR0_4.out HB.out))
          (case side4 => exact HC0_4.out)
          rintro e w71 ⟨v719, v722, rfl, ho0, ho1, hb⟩
          refine ⟨_, rfl, ?_⟩
          have n0_ := am_ (Kd.R_lower ho0 (below_size (bel_ HB.out)))
          have n1_ := am_ (Kd.R_lower ho1 (below_size (bel_ HB.out)))
          have n2_ := am_ (blk_below (g := gb712) (o := .cells #[.int .i64 a0_0, .string a0_1, .string a0_2, .slice A0_3 l0_3.length c0_3, .slice A0_4 l0_4.length c0_4] 26 (0, 0)) (blk_ BK712.out) hb)
          have n3_ := am_ (blk_below (g := gb713) (o := .cells #[.int .i64 a1_0, .string a1_1, .string a1_2, .slice A1_3 l1_3.length c1_3, .slice A1_4 l1_4.length c1_4] 26 (0, 0)) (blk_ BK713.out) hb)
          have n4_ := am_ (blk_below (g := gb714) (o := .cells #[.int .i64 a2_0, .string a2_1, .string a2_2, .slice A2_3 l2_3.length c2_3, .slice A2_4 l2_4.length c2_4] 26 (0, 0)) (blk_ BK714.out) hb)
          have n5_ := am_ (below_step (bel_ HB.out) hb)
          clear BK712 BK713 BK714 HB
          have HO720 := n0_
          have HO723 := n1_
          have BK712 := n2_
          have BK713 := n3_
          have BK714 := n4_
          have HB := n5_
          clear n0_ n1_ n2_ n3_ n4_ n5_
          (try clear hb)
          (try clear hb2)
          (try clear hk)
          (try clear hi)
          (try clear ho0)
          (try clear ho1)
          refine hK.out _ _ ⟨(blk_cell BK712.out 0).trans rfl, (blk_cell BK712.out 1).trans rfl, (blk_cell BK712.out 2).trans rfl, (blk_cell BK712.out 3).trans rfl, (blk_cell BK712.out 4).trans rfl, (blk_cell BK713.out 0).trans rfl, (blk_cell BK713.out 1).trans rfl, (blk_cell BK713.out 2).trans rfl, (blk_cell BK713.out 3).trans rfl, (blk_cell BK713.out 4).trans rfl, (blk_cell BK714.out 0).trans rfl, (blk_cell BK714.out 1).trans rfl, (blk_cell BK714.out 2).trans rfl, (blk_cell BK714.out 3).trans rfl, (blk_cell BK714.out 4).trans rfl⟩ (fun hHeld => ?_)
          clear hK K
          refine norm_ (a' := ?_) ?_ ?_
          rotate_left
          ·show Act.put _ (some 11) _ = _
           simp only [Act.put, sx_, s0_, s1_, i64_w, i32_w]
           rfl
          refine one_ (i := 3) (N := some 13) #[true, true, true, true, true, false, false, false, false] rfl rfl (one_of HT_.out kr_) (by decide) (fun K hK => ?_)
          refine goes_ Tryd.func9 kr_ rfl #[.agg #[.int .i64 a1_0, .string a1_1, .string a1_2, .slice A1_3 l1_3.length c1_3, .slice A1_4 l1_4.length c1_4]] (by rfl) rfl rfl rl_ ?_
          with_reducible refine (tolllaw06_Few.calls k a1_0 a1_1 a1_2 _ _ l1_3 _ _ l1_4 t724 t725 t726 t727 t730 _ ?side1 ?side2 ?side3 ?side4 A5.out).mono ?_
          (case side1 => exact C_ (Kd.C_below HR1_3.out HB.out))
          (case side2 => exact HC1_3.out)
          (case side3 => exact C_ (Kd.C_below HR1_4.out HB.out))
          (case side4 => exact HC1_4.out)
          rintro e w72 ⟨v728, v731, rfl, ho0, ho1, hb⟩
          refine ⟨_, rfl, ?_⟩
          have n0_ := am_ (Kd.R_mono (Kd.R_told (Kd.R_told (Kd.R_old (R_ HO720.out) hb) (Kd.R_base ho0)) (Kd.R_base ho1)) (fun _ h_ => h_.1))
          have n1_ := am_ (Kd.R_mono (Kd.R_told (Kd.R_told (Kd.R_old (R_ HO723.out) hb) (Kd.R_base ho0)) (Kd.R_base ho1)) (fun _ h_ => h_.1))
          have n2_ := am_ (Kd.R_lower (Kd.R_new' (Kd.R_new' ho0 (Kd.R_lt (R_ HO720.out))) (Kd.R_lt (R_ HO723.out))) (below_size (bel_ HB.out)))
          have n3_ := am_ (Kd.R_lower (Kd.R_new' (Kd.R_new' ho1 (Kd.R_lt (R_ HO720.out))) (Kd.R_lt (R_ HO723.out))) (below_size (bel_ HB.out)))
          have n4_ := am_ (blk_below (g := gb712) (o := .cells #[.int .i64 a0_0, .string a0_1, .string a0_2, .slice A0_3 l0_3.length c0_3, .slice A0_4 l0_4.length c0_4] 26 (0, 0)) (blk_ BK712.out) hb)
          have n5_ := am_ (blk_below (g := gb713) (o := .cells #[.int .i64 a1_0, .string a1_1, .string a1_2, .slice A1_3 l1_3.length c1_3, .slice A1_4 l1_4.length c1_4] 26 (0, 0)) (blk_ BK713.out) hb)
          have n6_ := am_ (blk_below (g := gb714) (o := .cells #[.int .i64 a2_0, .string a2_1, .string a2_2, .slice A2_3 l2_3.length c2_3, .slice A2_4 l2_4.length c2_4] 26 (0, 0)) (blk_ BK714.out) hb)
          have n7_ := am_ (below_step (bel_ HB.out) hb)
          clear HO720 HO723 BK712 BK713 BK714 HB
          have HO720 := n0_
          have HO723 := n1_
          have HO729 := n2_
          have HO732 := n3_
          have BK712 := n4_
          have BK713 := n5_
          have BK714 := n6_
          have HB := n7_
          clear n0_ n1_ n2_ n3_ n4_ n5_ n6_ n7_
          (try clear hb)
          (try clear hb2)
          (try clear hk)
          (try clear hi)
          (try clear ho0)
          (try clear ho1)
          refine hK.out _ _ ⟨(blk_cell BK712.out 0).trans rfl, (blk_cell BK712.out 1).trans rfl, (blk_cell BK712.out 2).trans rfl, (blk_cell BK712.out 3).trans rfl, (blk_cell BK712.out 4).trans rfl, (blk_cell BK713.out 0).trans rfl, (blk_cell BK713.out 1).trans rfl, (blk_cell BK713.out 2).trans rfl, (blk_cell BK713.out 3).trans rfl, (blk_cell BK713.out 4).trans rfl, (blk_cell BK714.out 0).trans rfl, (blk_cell BK714.out 1).trans rfl, (blk_cell BK714.out 2).trans rfl, (blk_cell BK714.out 3).trans rfl, (blk_cell BK714.out 4).trans rfl⟩ (fun hHeld => ?_)
          clear hK K
          refine norm_ (a' := ?_) ?_ ?_
          rotate_left
          ·show Act.put _ (some 13) _ = _
           simp only [Act.put, sx_, s0_, s1_, i64_w, i32_w]
           rfl
          refine one_ (i := 5) (N := some 15) #[true, true, true, true, true, true, false, false, false] rfl rfl (one_of HT_.out kr_) (by decide) (fun K hK => ?_)
          refine goes_ Tryd.func9 kr_ rfl #[.agg #[.int .i64 a2_0, .string a2_1, .string a2_2, .slice A2_3 l2_3.length c2_3, .slice A2_4 l2_4.length c2_4]] (by rfl) rfl rfl rl_ ?_
          with_reducible refine (tolllaw06_Few.calls k a2_0 a2_1 a2_2 _ _ l2_3 _ _ l2_4 t733 t734 t735 t736 t739 _ ?side1 ?side2 ?side3 ?side4 A6.out).mono ?_
          (case side1 => exact C_ (Kd.C_below HR2_3.out HB.out))
          (case side2 => exact HC2_3.out)
          (case side3 => exact C_ (Kd.C_below HR2_4.out HB.out))
          (case side4 => exact HC2_4.out)
          rintro e w73 ⟨v737, v740, rfl, ho0, ho1, hb⟩
          refine ⟨_, rfl, ?_⟩
          have n0_ := am_ (Kd.R_mono (Kd.R_told (Kd.R_told (Kd.R_old (R_ HO720.out) hb) (Kd.R_base ho0)) (Kd.R_base ho1)) (fun _ h_ => h_.1))
          have n1_ := am_ (Kd.R_mono (Kd.R_told (Kd.R_told (Kd.R_old (R_ HO723.out) hb) (Kd.R_base ho0)) (Kd.R_base ho1)) (fun _ h_ => h_.1))
          have n2_ := am_ (Kd.R_mono (Kd.R_told (Kd.R_told (Kd.R_old (R_ HO729.out) hb) (Kd.R_base ho0)) (Kd.R_base ho1)) (fun _ h_ => h_.1))
          have n3_ := am_ (Kd.R_mono (Kd.R_told (Kd.R_told (Kd.R_old (R_ HO732.out) hb) (Kd.R_base ho0)) (Kd.R_base ho1)) (fun _ h_ => h_.1))
          have n4_ := am_ (Kd.R_lower (Kd.R_new' (Kd.R_new' (Kd.R_new' (Kd.R_new' ho0 (Kd.R_lt (R_ HO720.out))) (Kd.R_lt (R_ HO723.out))) (Kd.R_lt (R_ HO729.out))) (Kd.R_lt (R_ HO732.out))) (below_size (bel_ HB.out)))
          have n5_ := am_ (Kd.R_lower (Kd.R_new' (Kd.R_new' (Kd.R_new' (Kd.R_new' ho1 (Kd.R_lt (R_ HO720.out))) (Kd.R_lt (R_ HO723.out))) (Kd.R_lt (R_ HO729.out))) (Kd.R_lt (R_ HO732.out))) (below_size (bel_ HB.out)))
          have n6_ := am_ (blk_below (g := gb712) (o := .cells #[.int .i64 a0_0, .string a0_1, .string a0_2, .slice A0_3 l0_3.length c0_3, .slice A0_4 l0_4.length c0_4] 26 (0, 0)) (blk_ BK712.out) hb)
          have n7_ := am_ (blk_below (g := gb713) (o := .cells #[.int .i64 a1_0, .string a1_1, .string a1_2, .slice A1_3 l1_3.length c1_3, .slice A1_4 l1_4.length c1_4] 26 (0, 0)) (blk_ BK713.out) hb)
          have n8_ := am_ (blk_below (g := gb714) (o := .cells #[.int .i64 a2_0, .string a2_1, .string a2_2, .slice A2_3 l2_3.length c2_3, .slice A2_4 l2_4.length c2_4] 26 (0, 0)) (blk_ BK714.out) hb)
          have n9_ := am_ (below_step (bel_ HB.out) hb)
          clear HO720 HO723 HO729 HO732 BK712 BK713 BK714 HB
          have HO720 := n0_
          have HO723 := n1_
          have HO729 := n2_
          have HO732 := n3_
          have HO738 := n4_
          have HO741 := n5_
          have BK712 := n6_
          have BK713 := n7_
          have BK714 := n8_
          have HB := n9_
          clear n0_ n1_ n2_ n3_ n4_ n5_ n6_ n7_ n8_ n9_
          (try clear hb)
          (try clear hb2)
          (try clear hk)
          (try clear hi)
          (try clear ho0)
          (try clear ho1)
          obtain ⟨Ao77, co77, eo77⟩ := Kd.R_slice HO720.out
          (first | subst eo77 | (injection eo77 with f1_ f2_ f3_; have f4_ := f1_.symm; have f5_ := f3_.symm; clear f1_ f2_ f3_; subst f4_; subst f5_))
          obtain ⟨Ao79, co79, eo79⟩ := Kd.R_slice HO723.out
          (first | subst eo79 | (injection eo79 with f1_ f2_ f3_; have f4_ := f1_.symm; have f5_ := f3_.symm; clear f1_ f2_ f3_; subst f4_; subst f5_))
          obtain ⟨Ao84, co84, eo84⟩ := Kd.R_slice HO729.out
          (first | subst eo84 | (injection eo84 with f1_ f2_ f3_; have f4_ := f1_.symm; have f5_ := f3_.symm; clear f1_ f2_ f3_; subst f4_; subst f5_))
          obtain ⟨Ao86, co86, eo86⟩ := Kd.R_slice HO732.out
          (first | subst eo86 | (injection eo86 with f1_ f2_ f3_; have f4_ := f1_.symm; have f5_ := f3_.symm; clear f1_ f2_ f3_; subst f4_; subst f5_))
          obtain ⟨Ao91, co91, eo91⟩ := Kd.R_slice HO738.out
          (first | subst eo91 | (injection eo91 with f1_ f2_ f3_; have f4_ := f1_.symm; have f5_ := f3_.symm; clear f1_ f2_ f3_; subst f4_; subst f5_))
          obtain ⟨Ao93, co93, eo93⟩ := Kd.R_slice HO741.out
          (first | subst eo93 | (injection eo93 with f1_ f2_ f3_; have f4_ := f1_.symm; have f5_ := f3_.symm; clear f1_ f2_ f3_; subst f4_; subst f5_))
          refine hK.out _ _ ⟨(blk_cell BK712.out 0).trans rfl, (blk_cell BK712.out 1).trans rfl, (blk_cell BK712.out 2).trans rfl, (blk_cell BK712.out 3).trans rfl, (blk_cell BK712.out 4).trans rfl, (blk_cell BK713.out 0).trans rfl, (blk_cell BK713.out 1).trans rfl, (blk_cell BK713.out 2).trans rfl, (blk_cell BK713.out 3).trans rfl, (blk_cell BK713.out 4).trans rfl, (blk_cell BK714.out 0).trans rfl, (blk_cell BK714.out 1).trans rfl, (blk_cell BK714.out 2).trans rfl, (blk_cell BK714.out 3).trans rfl, (blk_cell BK714.out 4).trans rfl⟩ (fun hHeld => ?_)
          clear hK K
          refine norm_ (a' := ?_) ?_ ?_
          rotate_left
          ·show Act.put _ (some 15) _ = _
           simp only [Act.put, sx_, s0_, s1_, i64_w, i32_w]
           rfl
          refine last_ (i := 6) (N := none) #[true, true, true, true, true, true, true, false, false] rfl rfl (one_of HT_.out kr_) (by decide) (fun K hK => ?_)
          have hs74 : w73.cell? ⟨gb712, 0, none⟩ = some (.int .i64 a0_0) := (blk_cell BK712.out 0).trans rfl
          have hfs74 := blk_frozen BK712.out 0
          have hns74_1 := NB713_712.out
          have hns74_2 := NB714_712.out
          have hms74_1 := NB712_713.out
          have hms74_2 := NB712_714.out
          have hs75 : w73.cell? ⟨gb712, 1, none⟩ = some (.string a0_1) := (blk_cell BK712.out 1).trans rfl
          have hfs75 := blk_frozen BK712.out 1
          have hns75_1 := NB713_712.out
          have hns75_2 := NB714_712.out
          have hms75_1 := NB712_713.out
          have hms75_2 := NB712_714.out
          have hs76 : w73.cell? ⟨gb712, 2, none⟩ = some (.string a0_2) := (blk_cell BK712.out 2).trans rfl
          have hfs76 := blk_frozen BK712.out 2
          have hns76_1 := NB713_712.out
          have hns76_2 := NB714_712.out
          have hms76_1 := NB712_713.out
          have hms76_2 := NB712_714.out
          have hs78 : w73.cell? ⟨gb712, 3, none⟩ = some (.slice A0_3 l0_3.length c0_3) := (blk_cell BK712.out 3).trans rfl
          have hfs78 := blk_frozen BK712.out 3
          have hns78_1 := NB713_712.out
          have hns78_2 := NB714_712.out
          have hms78_1 := NB712_713.out
          have hms78_2 := NB712_714.out
          have hs80 : w73.cell? ⟨gb712, 4, none⟩ = some (.slice A0_4 l0_4.length c0_4) := (blk_cell BK712.out 4).trans rfl
          have hfs80 := blk_frozen BK712.out 4
          have hns80_1 := NB713_712.out
          have hns80_2 := NB714_712.out
          have hms80_1 := NB712_713.out
          have hms80_2 := NB712_714.out
          refine skip_ (w1 := ?_) ?_ ?_ ?_ ?_
          rotate_left
          ·rfl
          ·rfl
          ·go_simp
           rfl
          refine hK.out _ _ ?_
          clear hK K
          refine last_ (i := 7) (N := none) #[true, true, true, true, true, true, true, true, false] rfl rfl (one_of HT_.out kr_) (by decide) (fun K hK => ?_)
          have hs81 : w73.cell? ⟨gb713, 0, none⟩ = some (.int .i64 a1_0) := (blk_cell BK713.out 0).trans rfl
          have hfs81 := blk_frozen BK713.out 0
          have hns81_0 := NB712_713.out
          have hns81_2 := NB714_713.out
          have hms81_0 := NB713_712.out
          have hms81_2 := NB713_714.out
          have hs82 : w73.cell? ⟨gb713, 1, none⟩ = some (.string a1_1) := (blk_cell BK713.out 1).trans rfl
          have hfs82 := blk_frozen BK713.out 1
          have hns82_0 := NB712_713.out
          have hns82_2 := NB714_713.out
          have hms82_0 := NB713_712.out
          have hms82_2 := NB713_714.out
          have hs83 : w73.cell? ⟨gb713, 2, none⟩ = some (.string a1_2) := (blk_cell BK713.out 2).trans rfl
          have hfs83 := blk_frozen BK713.out 2
          have hns83_0 := NB712_713.out
          have hns83_2 := NB714_713.out
          have hms83_0 := NB713_712.out
          have hms83_2 := NB713_714.out
          have hs85 : w73.cell? ⟨gb713, 3, none⟩ = some (.slice A1_3 l1_3.length c1_3) := (blk_cell BK713.out 3).trans rfl
          have hfs85 := blk_frozen BK713.out 3
          have hns85_0 := NB712_713.out
          have hns85_2 := NB714_713.out
          have hms85_0 := NB713_712.out
          have hms85_2 := NB713_714.out
          have hs87 : w73.cell? ⟨gb713, 4, none⟩ = some (.slice A1_4 l1_4.length c1_4) := (blk_cell BK713.out 4).trans rfl
          have hfs87 := blk_frozen BK713.out 4
          have hns87_0 := NB712_713.out
          have hns87_2 := NB714_713.out
          have hms87_0 := NB713_712.out
          have hms87_2 := NB713_714.out
          refine skip_ (w1 := ?_) ?_ ?_ ?_ ?_
          rotate_left
          ·rfl
          ·rfl
          ·go_simp
           rfl
          refine hK.out _ _ ?_
          clear hK K
          refine last_ (i := 8) (N := none) #[true, true, true, true, true, true, true, true, true] rfl rfl (one_of HT_.out kr_) (by decide) (fun K hK => ?_)
          have hs88 : w73.cell? ⟨gb714, 0, none⟩ = some (.int .i64 a2_0) := (blk_cell BK714.out 0).trans rfl
          have hfs88 := blk_frozen BK714.out 0
          have hns88_0 := NB712_714.out
          have hns88_1 := NB713_714.out
          have hms88_0 := NB714_712.out
          have hms88_1 := NB714_713.out
          have hs89 : w73.cell? ⟨gb714, 1, none⟩ = some (.string a2_1) := (blk_cell BK714.out 1).trans rfl
          have hfs89 := blk_frozen BK714.out 1
          have hns89_0 := NB712_714.out
          have hns89_1 := NB713_714.out
          have hms89_0 := NB714_712.out
          have hms89_1 := NB714_713.out
          have hs90 : w73.cell? ⟨gb714, 2, none⟩ = some (.string a2_2) := (blk_cell BK714.out 2).trans rfl
          have hfs90 := blk_frozen BK714.out 2
          have hns90_0 := NB712_714.out
          have hns90_1 := NB713_714.out
          have hms90_0 := NB714_712.out
          have hms90_1 := NB714_713.out
          have hs92 : w73.cell? ⟨gb714, 3, none⟩ = some (.slice A2_3 l2_3.length c2_3) := (blk_cell BK714.out 3).trans rfl
          have hfs92 := blk_frozen BK714.out 3
          have hns92_0 := NB712_714.out
          have hns92_1 := NB713_714.out
          have hms92_0 := NB714_712.out
          have hms92_1 := NB714_713.out
          have hs94 : w73.cell? ⟨gb714, 4, none⟩ = some (.slice A2_4 l2_4.length c2_4) := (blk_cell BK714.out 4).trans rfl
          have hfs94 := blk_frozen BK714.out 4
          have hns94_0 := NB712_714.out
          have hns94_1 := NB713_714.out
          have hms94_0 := NB714_712.out
          have hms94_1 := NB714_713.out
          refine skip_ (w1 := ?_) ?_ ?_ ?_ ?_
          rotate_left
          ·rfl
          ·rfl
          ·go_simp
           rfl
          refine hK.out _ _ ?_
          clear hK K
          refine done_ (done_of HT_.out kr_) ?_
          try go_wp2
          have n0_ : Aside0 (Kd.R k49 49 (((((((((((((((w73.setCell ⟨gb712, 0, none⟩ (.int .i64 t715)).setCell ⟨gb712, 1, none⟩ (.string t716)).setCell ⟨gb712, 2, none⟩ (.string t717)).setCell ⟨gb712, 3, none⟩ (.slice Ao77 t718.length co77)).setCell ⟨gb712, 4, none⟩ (.slice Ao79 t721.length co79)).setCell ⟨gb713, 0, none⟩ (.int .i64 t724)).setCell ⟨gb713, 1, none⟩ (.string t725)).setCell ⟨gb713, 2, none⟩ (.string t726)).setCell ⟨gb713, 3, none⟩ (.slice Ao84 t727.length co84)).setCell ⟨gb713, 4, none⟩ (.slice Ao86 t730.length co86)).setCell ⟨gb714, 0, none⟩ (.int .i64 t733)).setCell ⟨gb714, 1, none⟩ (.string t734)).setCell ⟨gb714, 2, none⟩ (.string t735)).setCell ⟨gb714, 3, none⟩ (.slice Ao91 t736.length co91)).setCell ⟨gb714, 4, none⟩ (.slice Ao93 t739.length co93)) w.heap.size (fun k_ => some k_ ≠ (.slice Ao79 t721.length co79 : Value).ownBlock ∧ some k_ ≠ (.slice Ao84 t727.length co84 : Value).ownBlock ∧ some k_ ≠ (.slice Ao86 t730.length co86 : Value).ownBlock ∧ some k_ ≠ (.slice Ao91 t736.length co91 : Value).ownBlock ∧ some k_ ≠ (.slice Ao93 t739.length co93 : Value).ownBlock) (.slice Ao77 t718.length co77) t718) := ⟨by (with_reducible repeat (first | apply Kd.R_alloc | apply Kd.R_drewN | apply Kd.R_drew)); exact Kd.R_mono (Kd.R_far (p := ⟨gb714, 4, none⟩) (Kd.R_far (p := ⟨gb714, 3, none⟩) (Kd.R_far (p := ⟨gb714, 2, none⟩) (Kd.R_far (p := ⟨gb714, 1, none⟩) (Kd.R_far (p := ⟨gb714, 0, none⟩) (Kd.R_far (p := ⟨gb713, 4, none⟩) (Kd.R_far (p := ⟨gb713, 3, none⟩) (Kd.R_far (p := ⟨gb713, 2, none⟩) (Kd.R_far (p := ⟨gb713, 1, none⟩) (Kd.R_far (p := ⟨gb713, 0, none⟩) (Kd.R_far (p := ⟨gb712, 4, none⟩) (Kd.R_far (p := ⟨gb712, 3, none⟩) (Kd.R_far (p := ⟨gb712, 2, none⟩) (Kd.R_far (p := ⟨gb712, 1, none⟩) (Kd.R_far (p := ⟨gb712, 0, none⟩) (Kd.R_types (Kd.R_types (Kd.R_types HO720.out BK712.out (by decide)) BK713.out (by decide)) BK714.out (by decide)) (fun _ hk => hk.1.1.2) (.int .i64 t715)) (fun _ hk => hk.1.1.2) (.string t716)) (fun _ hk => hk.1.1.2) (.string t717)) (fun _ hk => hk.1.1.2) (.slice Ao77 t718.length co77)) (fun _ hk => hk.1.1.2) (.slice Ao79 t721.length co79)) (fun _ hk => hk.1.2) (.int .i64 t724)) (fun _ hk => hk.1.2) (.string t725)) (fun _ hk => hk.1.2) (.string t726)) (fun _ hk => hk.1.2) (.slice Ao84 t727.length co84)) (fun _ hk => hk.1.2) (.slice Ao86 t730.length co86)) (fun _ hk => hk.2) (.int .i64 t733)) (fun _ hk => hk.2) (.string t734)) (fun _ hk => hk.2) (.string t735)) (fun _ hk => hk.2) (.slice Ao91 t736.length co91)) (fun _ hk => hk.2) (.slice Ao93 t739.length co93)) (fun _ hk => ⟨hk.1.1.1.1.1.1.1, ⟨hk.1.1.1.1.1.1.2, ⟨hk.1.1.1.1.1.2, ⟨hk.1.1.1.1.2, hk.1.1.1.2⟩⟩⟩⟩)⟩
          have n1_ : Aside0 (Kd.R k49 49 (((((((((((((((w73.setCell ⟨gb712, 0, none⟩ (.int .i64 t715)).setCell ⟨gb712, 1, none⟩ (.string t716)).setCell ⟨gb712, 2, none⟩ (.string t717)).setCell ⟨gb712, 3, none⟩ (.slice Ao77 t718.length co77)).setCell ⟨gb712, 4, none⟩ (.slice Ao79 t721.length co79)).setCell ⟨gb713, 0, none⟩ (.int .i64 t724)).setCell ⟨gb713, 1, none⟩ (.string t725)).setCell ⟨gb713, 2, none⟩ (.string t726)).setCell ⟨gb713, 3, none⟩ (.slice Ao84 t727.length co84)).setCell ⟨gb713, 4, none⟩ (.slice Ao86 t730.length co86)).setCell ⟨gb714, 0, none⟩ (.int .i64 t733)).setCell ⟨gb714, 1, none⟩ (.string t734)).setCell ⟨gb714, 2, none⟩ (.string t735)).setCell ⟨gb714, 3, none⟩ (.slice Ao91 t736.length co91)).setCell ⟨gb714, 4, none⟩ (.slice Ao93 t739.length co93)) w.heap.size (fun k_ => some k_ ≠ (.slice Ao77 t718.length co77 : Value).ownBlock ∧ some k_ ≠ (.slice Ao84 t727.length co84 : Value).ownBlock ∧ some k_ ≠ (.slice Ao86 t730.length co86 : Value).ownBlock ∧ some k_ ≠ (.slice Ao91 t736.length co91 : Value).ownBlock ∧ some k_ ≠ (.slice Ao93 t739.length co93 : Value).ownBlock) (.slice Ao79 t721.length co79) t721) := ⟨by (with_reducible repeat (first | apply Kd.R_alloc | apply Kd.R_drewN | apply Kd.R_drew)); exact Kd.R_mono (Kd.R_far (p := ⟨gb714, 4, none⟩) (Kd.R_far (p := ⟨gb714, 3, none⟩) (Kd.R_far (p := ⟨gb714, 2, none⟩) (Kd.R_far (p := ⟨gb714, 1, none⟩) (Kd.R_far (p := ⟨gb714, 0, none⟩) (Kd.R_far (p := ⟨gb713, 4, none⟩) (Kd.R_far (p := ⟨gb713, 3, none⟩) (Kd.R_far (p := ⟨gb713, 2, none⟩) (Kd.R_far (p := ⟨gb713, 1, none⟩) (Kd.R_far (p := ⟨gb713, 0, none⟩) (Kd.R_far (p := ⟨gb712, 4, none⟩) (Kd.R_far (p := ⟨gb712, 3, none⟩) (Kd.R_far (p := ⟨gb712, 2, none⟩) (Kd.R_far (p := ⟨gb712, 1, none⟩) (Kd.R_far (p := ⟨gb712, 0, none⟩) (Kd.R_types (Kd.R_types (Kd.R_types HO723.out BK712.out (by decide)) BK713.out (by decide)) BK714.out (by decide)) (fun _ hk => hk.1.1.2) (.int .i64 t715)) (fun _ hk => hk.1.1.2) (.string t716)) (fun _ hk => hk.1.1.2) (.string t717)) (fun _ hk => hk.1.1.2) (.slice Ao77 t718.length co77)) (fun _ hk => hk.1.1.2) (.slice Ao79 t721.length co79)) (fun _ hk => hk.1.2) (.int .i64 t724)) (fun _ hk => hk.1.2) (.string t725)) (fun _ hk => hk.1.2) (.string t726)) (fun _ hk => hk.1.2) (.slice Ao84 t727.length co84)) (fun _ hk => hk.1.2) (.slice Ao86 t730.length co86)) (fun _ hk => hk.2) (.int .i64 t733)) (fun _ hk => hk.2) (.string t734)) (fun _ hk => hk.2) (.string t735)) (fun _ hk => hk.2) (.slice Ao91 t736.length co91)) (fun _ hk => hk.2) (.slice Ao93 t739.length co93)) (fun _ hk => ⟨hk.1.1.1.1.1.1.1, ⟨hk.1.1.1.1.1.1.2, ⟨hk.1.1.1.1.1.2, ⟨hk.1.1.1.1.2, hk.1.1.1.2⟩⟩⟩⟩)⟩
          have n2_ : Aside0 (Kd.R k49 49 (((((((((((((((w73.setCell ⟨gb712, 0, none⟩ (.int .i64 t715)).setCell ⟨gb712, 1, none⟩ (.string t716)).setCell ⟨gb712, 2, none⟩ (.string t717)).setCell ⟨gb712, 3, none⟩ (.slice Ao77 t718.length co77)).setCell ⟨gb712, 4, none⟩ (.slice Ao79 t721.length co79)).setCell ⟨gb713, 0, none⟩ (.int .i64 t724)).setCell ⟨gb713, 1, none⟩ (.string t725)).setCell ⟨gb713, 2, none⟩ (.string t726)).setCell ⟨gb713, 3, none⟩ (.slice Ao84 t727.length co84)).setCell ⟨gb713, 4, none⟩ (.slice Ao86 t730.length co86)).setCell ⟨gb714, 0, none⟩ (.int .i64 t733)).setCell ⟨gb714, 1, none⟩ (.string t734)).setCell ⟨gb714, 2, none⟩ (.string t735)).setCell ⟨gb714, 3, none⟩ (.slice Ao91 t736.length co91)).setCell ⟨gb714, 4, none⟩ (.slice Ao93 t739.length co93)) w.heap.size (fun k_ => some k_ ≠ (.slice Ao77 t718.length co77 : Value).ownBlock ∧ some k_ ≠ (.slice Ao79 t721.length co79 : Value).ownBlock ∧ some k_ ≠ (.slice Ao86 t730.length co86 : Value).ownBlock ∧ some k_ ≠ (.slice Ao91 t736.length co91 : Value).ownBlock ∧ some k_ ≠ (.slice Ao93 t739.length co93 : Value).ownBlock) (.slice Ao84 t727.length co84) t727) := ⟨by (with_reducible repeat (first | apply Kd.R_alloc | apply Kd.R_drewN | apply Kd.R_drew)); exact Kd.R_mono (Kd.R_far (p := ⟨gb714, 4, none⟩) (Kd.R_far (p := ⟨gb714, 3, none⟩) (Kd.R_far (p := ⟨gb714, 2, none⟩) (Kd.R_far (p := ⟨gb714, 1, none⟩) (Kd.R_far (p := ⟨gb714, 0, none⟩) (Kd.R_far (p := ⟨gb713, 4, none⟩) (Kd.R_far (p := ⟨gb713, 3, none⟩) (Kd.R_far (p := ⟨gb713, 2, none⟩) (Kd.R_far (p := ⟨gb713, 1, none⟩) (Kd.R_far (p := ⟨gb713, 0, none⟩) (Kd.R_far (p := ⟨gb712, 4, none⟩) (Kd.R_far (p := ⟨gb712, 3, none⟩) (Kd.R_far (p := ⟨gb712, 2, none⟩) (Kd.R_far (p := ⟨gb712, 1, none⟩) (Kd.R_far (p := ⟨gb712, 0, none⟩) (Kd.R_types (Kd.R_types (Kd.R_types HO729.out BK712.out (by decide)) BK713.out (by decide)) BK714.out (by decide)) (fun _ hk => hk.1.1.2) (.int .i64 t715)) (fun _ hk => hk.1.1.2) (.string t716)) (fun _ hk => hk.1.1.2) (.string t717)) (fun _ hk => hk.1.1.2) (.slice Ao77 t718.length co77)) (fun _ hk => hk.1.1.2) (.slice Ao79 t721.length co79)) (fun _ hk => hk.1.2) (.int .i64 t724)) (fun _ hk => hk.1.2) (.string t725)) (fun _ hk => hk.1.2) (.string t726)) (fun _ hk => hk.1.2) (.slice Ao84 t727.length co84)) (fun _ hk => hk.1.2) (.slice Ao86 t730.length co86)) (fun _ hk => hk.2) (.int .i64 t733)) (fun _ hk => hk.2) (.string t734)) (fun _ hk => hk.2) (.string t735)) (fun _ hk => hk.2) (.slice Ao91 t736.length co91)) (fun _ hk => hk.2) (.slice Ao93 t739.length co93)) (fun _ hk => ⟨hk.1.1.1.1.1.1.2, ⟨hk.1.1.1.1.1.2, ⟨hk.1.1.1.1.1.1.1, ⟨hk.1.1.1.1.2, hk.1.1.1.2⟩⟩⟩⟩)⟩
          have n3_ : Aside0 (Kd.R k49 49 (((((((((((((((w73.setCell ⟨gb712, 0, none⟩ (.int .i64 t715)).setCell ⟨gb712, 1, none⟩ (.string t716)).setCell ⟨gb712, 2, none⟩ (.string t717)).setCell ⟨gb712, 3, none⟩ (.slice Ao77 t718.length co77)).setCell ⟨gb712, 4, none⟩ (.slice Ao79 t721.length co79)).setCell ⟨gb713, 0, none⟩ (.int .i64 t724)).setCell ⟨gb713, 1, none⟩ (.string t725)).setCell ⟨gb713, 2, none⟩ (.string t726)).setCell ⟨gb713, 3, none⟩ (.slice Ao84 t727.length co84)).setCell ⟨gb713, 4, none⟩ (.slice Ao86 t730.length co86)).setCell ⟨gb714, 0, none⟩ (.int .i64 t733)).setCell ⟨gb714, 1, none⟩ (.string t734)).setCell ⟨gb714, 2, none⟩ (.string t735)).setCell ⟨gb714, 3, none⟩ (.slice Ao91 t736.length co91)).setCell ⟨gb714, 4, none⟩ (.slice Ao93 t739.length co93)) w.heap.size (fun k_ => some k_ ≠ (.slice Ao77 t718.length co77 : Value).ownBlock ∧ some k_ ≠ (.slice Ao79 t721.length co79 : Value).ownBlock ∧ some k_ ≠ (.slice Ao84 t727.length co84 : Value).ownBlock ∧ some k_ ≠ (.slice Ao91 t736.length co91 : Value).ownBlock ∧ some k_ ≠ (.slice Ao93 t739.length co93 : Value).ownBlock) (.slice Ao86 t730.length co86) t730) := ⟨by (with_reducible repeat (first | apply Kd.R_alloc | apply Kd.R_drewN | apply Kd.R_drew)); exact Kd.R_mono (Kd.R_far (p := ⟨gb714, 4, none⟩) (Kd.R_far (p := ⟨gb714, 3, none⟩) (Kd.R_far (p := ⟨gb714, 2, none⟩) (Kd.R_far (p := ⟨gb714, 1, none⟩) (Kd.R_far (p := ⟨gb714, 0, none⟩) (Kd.R_far (p := ⟨gb713, 4, none⟩) (Kd.R_far (p := ⟨gb713, 3, none⟩) (Kd.R_far (p := ⟨gb713, 2, none⟩) (Kd.R_far (p := ⟨gb713, 1, none⟩) (Kd.R_far (p := ⟨gb713, 0, none⟩) (Kd.R_far (p := ⟨gb712, 4, none⟩) (Kd.R_far (p := ⟨gb712, 3, none⟩) (Kd.R_far (p := ⟨gb712, 2, none⟩) (Kd.R_far (p := ⟨gb712, 1, none⟩) (Kd.R_far (p := ⟨gb712, 0, none⟩) (Kd.R_types (Kd.R_types (Kd.R_types HO732.out BK712.out (by decide)) BK713.out (by decide)) BK714.out (by decide)) (fun _ hk => hk.1.1.2) (.int .i64 t715)) (fun _ hk => hk.1.1.2) (.string t716)) (fun _ hk => hk.1.1.2) (.string t717)) (fun _ hk => hk.1.1.2) (.slice Ao77 t718.length co77)) (fun _ hk => hk.1.1.2) (.slice Ao79 t721.length co79)) (fun _ hk => hk.1.2) (.int .i64 t724)) (fun _ hk => hk.1.2) (.string t725)) (fun _ hk => hk.1.2) (.string t726)) (fun _ hk => hk.1.2) (.slice Ao84 t727.length co84)) (fun _ hk => hk.1.2) (.slice Ao86 t730.length co86)) (fun _ hk => hk.2) (.int .i64 t733)) (fun _ hk => hk.2) (.string t734)) (fun _ hk => hk.2) (.string t735)) (fun _ hk => hk.2) (.slice Ao91 t736.length co91)) (fun _ hk => hk.2) (.slice Ao93 t739.length co93)) (fun _ hk => ⟨hk.1.1.1.1.1.1.2, ⟨hk.1.1.1.1.1.2, ⟨hk.1.1.1.1.1.1.1, ⟨hk.1.1.1.1.2, hk.1.1.1.2⟩⟩⟩⟩)⟩
          have n4_ : Aside0 (Kd.R k49 49 (((((((((((((((w73.setCell ⟨gb712, 0, none⟩ (.int .i64 t715)).setCell ⟨gb712, 1, none⟩ (.string t716)).setCell ⟨gb712, 2, none⟩ (.string t717)).setCell ⟨gb712, 3, none⟩ (.slice Ao77 t718.length co77)).setCell ⟨gb712, 4, none⟩ (.slice Ao79 t721.length co79)).setCell ⟨gb713, 0, none⟩ (.int .i64 t724)).setCell ⟨gb713, 1, none⟩ (.string t725)).setCell ⟨gb713, 2, none⟩ (.string t726)).setCell ⟨gb713, 3, none⟩ (.slice Ao84 t727.length co84)).setCell ⟨gb713, 4, none⟩ (.slice Ao86 t730.length co86)).setCell ⟨gb714, 0, none⟩ (.int .i64 t733)).setCell ⟨gb714, 1, none⟩ (.string t734)).setCell ⟨gb714, 2, none⟩ (.string t735)).setCell ⟨gb714, 3, none⟩ (.slice Ao91 t736.length co91)).setCell ⟨gb714, 4, none⟩ (.slice Ao93 t739.length co93)) w.heap.size (fun k_ => some k_ ≠ (.slice Ao77 t718.length co77 : Value).ownBlock ∧ some k_ ≠ (.slice Ao79 t721.length co79 : Value).ownBlock ∧ some k_ ≠ (.slice Ao84 t727.length co84 : Value).ownBlock ∧ some k_ ≠ (.slice Ao86 t730.length co86 : Value).ownBlock ∧ some k_ ≠ (.slice Ao93 t739.length co93 : Value).ownBlock) (.slice Ao91 t736.length co91) t736) := ⟨by (with_reducible repeat (first | apply Kd.R_alloc | apply Kd.R_drewN | apply Kd.R_drew)); exact Kd.R_mono (Kd.R_far (p := ⟨gb714, 4, none⟩) (Kd.R_far (p := ⟨gb714, 3, none⟩) (Kd.R_far (p := ⟨gb714, 2, none⟩) (Kd.R_far (p := ⟨gb714, 1, none⟩) (Kd.R_far (p := ⟨gb714, 0, none⟩) (Kd.R_far (p := ⟨gb713, 4, none⟩) (Kd.R_far (p := ⟨gb713, 3, none⟩) (Kd.R_far (p := ⟨gb713, 2, none⟩) (Kd.R_far (p := ⟨gb713, 1, none⟩) (Kd.R_far (p := ⟨gb713, 0, none⟩) (Kd.R_far (p := ⟨gb712, 4, none⟩) (Kd.R_far (p := ⟨gb712, 3, none⟩) (Kd.R_far (p := ⟨gb712, 2, none⟩) (Kd.R_far (p := ⟨gb712, 1, none⟩) (Kd.R_far (p := ⟨gb712, 0, none⟩) (Kd.R_types (Kd.R_types (Kd.R_types HO738.out BK712.out (by decide)) BK713.out (by decide)) BK714.out (by decide)) (fun _ hk => hk.1.1.2) (.int .i64 t715)) (fun _ hk => hk.1.1.2) (.string t716)) (fun _ hk => hk.1.1.2) (.string t717)) (fun _ hk => hk.1.1.2) (.slice Ao77 t718.length co77)) (fun _ hk => hk.1.1.2) (.slice Ao79 t721.length co79)) (fun _ hk => hk.1.2) (.int .i64 t724)) (fun _ hk => hk.1.2) (.string t725)) (fun _ hk => hk.1.2) (.string t726)) (fun _ hk => hk.1.2) (.slice Ao84 t727.length co84)) (fun _ hk => hk.1.2) (.slice Ao86 t730.length co86)) (fun _ hk => hk.2) (.int .i64 t733)) (fun _ hk => hk.2) (.string t734)) (fun _ hk => hk.2) (.string t735)) (fun _ hk => hk.2) (.slice Ao91 t736.length co91)) (fun _ hk => hk.2) (.slice Ao93 t739.length co93)) (fun _ hk => ⟨hk.1.1.1.1.1.1.2, ⟨hk.1.1.1.1.1.2, ⟨hk.1.1.1.1.2, ⟨hk.1.1.1.2, hk.1.1.1.1.1.1.1⟩⟩⟩⟩)⟩
          have n5_ : Aside0 (Kd.R k49 49 (((((((((((((((w73.setCell ⟨gb712, 0, none⟩ (.int .i64 t715)).setCell ⟨gb712, 1, none⟩ (.string t716)).setCell ⟨gb712, 2, none⟩ (.string t717)).setCell ⟨gb712, 3, none⟩ (.slice Ao77 t718.length co77)).setCell ⟨gb712, 4, none⟩ (.slice Ao79 t721.length co79)).setCell ⟨gb713, 0, none⟩ (.int .i64 t724)).setCell ⟨gb713, 1, none⟩ (.string t725)).setCell ⟨gb713, 2, none⟩ (.string t726)).setCell ⟨gb713, 3, none⟩ (.slice Ao84 t727.length co84)).setCell ⟨gb713, 4, none⟩ (.slice Ao86 t730.length co86)).setCell ⟨gb714, 0, none⟩ (.int .i64 t733)).setCell ⟨gb714, 1, none⟩ (.string t734)).setCell ⟨gb714, 2, none⟩ (.string t735)).setCell ⟨gb714, 3, none⟩ (.slice Ao91 t736.length co91)).setCell ⟨gb714, 4, none⟩ (.slice Ao93 t739.length co93)) w.heap.size (fun k_ => some k_ ≠ (.slice Ao77 t718.length co77 : Value).ownBlock ∧ some k_ ≠ (.slice Ao79 t721.length co79 : Value).ownBlock ∧ some k_ ≠ (.slice Ao84 t727.length co84 : Value).ownBlock ∧ some k_ ≠ (.slice Ao86 t730.length co86 : Value).ownBlock ∧ some k_ ≠ (.slice Ao91 t736.length co91 : Value).ownBlock) (.slice Ao93 t739.length co93) t739) := ⟨by (with_reducible repeat (first | apply Kd.R_alloc | apply Kd.R_drewN | apply Kd.R_drew)); exact Kd.R_mono (Kd.R_far (p := ⟨gb714, 4, none⟩) (Kd.R_far (p := ⟨gb714, 3, none⟩) (Kd.R_far (p := ⟨gb714, 2, none⟩) (Kd.R_far (p := ⟨gb714, 1, none⟩) (Kd.R_far (p := ⟨gb714, 0, none⟩) (Kd.R_far (p := ⟨gb713, 4, none⟩) (Kd.R_far (p := ⟨gb713, 3, none⟩) (Kd.R_far (p := ⟨gb713, 2, none⟩) (Kd.R_far (p := ⟨gb713, 1, none⟩) (Kd.R_far (p := ⟨gb713, 0, none⟩) (Kd.R_far (p := ⟨gb712, 4, none⟩) (Kd.R_far (p := ⟨gb712, 3, none⟩) (Kd.R_far (p := ⟨gb712, 2, none⟩) (Kd.R_far (p := ⟨gb712, 1, none⟩) (Kd.R_far (p := ⟨gb712, 0, none⟩) (Kd.R_types (Kd.R_types (Kd.R_types HO741.out BK712.out (by decide)) BK713.out (by decide)) BK714.out (by decide)) (fun _ hk => hk.1.1.2) (.int .i64 t715)) (fun _ hk => hk.1.1.2) (.string t716)) (fun _ hk => hk.1.1.2) (.string t717)) (fun _ hk => hk.1.1.2) (.slice Ao77 t718.length co77)) (fun _ hk => hk.1.1.2) (.slice Ao79 t721.length co79)) (fun _ hk => hk.1.2) (.int .i64 t724)) (fun _ hk => hk.1.2) (.string t725)) (fun _ hk => hk.1.2) (.string t726)) (fun _ hk => hk.1.2) (.slice Ao84 t727.length co84)) (fun _ hk => hk.1.2) (.slice Ao86 t730.length co86)) (fun _ hk => hk.2) (.int .i64 t733)) (fun _ hk => hk.2) (.string t734)) (fun _ hk => hk.2) (.string t735)) (fun _ hk => hk.2) (.slice Ao91 t736.length co91)) (fun _ hk => hk.2) (.slice Ao93 t739.length co93)) (fun _ hk => ⟨hk.1.1.1.1.1.1.2, ⟨hk.1.1.1.1.1.2, ⟨hk.1.1.1.1.2, ⟨hk.1.1.1.2, hk.1.1.1.1.1.1.1⟩⟩⟩⟩)⟩
          have n6_ : Aside0 ((((((((((((((((w73.setCell ⟨gb712, 0, none⟩ (.int .i64 t715)).setCell ⟨gb712, 1, none⟩ (.string t716)).setCell ⟨gb712, 2, none⟩ (.string t717)).setCell ⟨gb712, 3, none⟩ (.slice Ao77 t718.length co77)).setCell ⟨gb712, 4, none⟩ (.slice Ao79 t721.length co79)).setCell ⟨gb713, 0, none⟩ (.int .i64 t724)).setCell ⟨gb713, 1, none⟩ (.string t725)).setCell ⟨gb713, 2, none⟩ (.string t726)).setCell ⟨gb713, 3, none⟩ (.slice Ao84 t727.length co84)).setCell ⟨gb713, 4, none⟩ (.slice Ao86 t730.length co86)).setCell ⟨gb714, 0, none⟩ (.int .i64 t733)).setCell ⟨gb714, 1, none⟩ (.string t734)).setCell ⟨gb714, 2, none⟩ (.string t735)).setCell ⟨gb714, 3, none⟩ (.slice Ao91 t736.length co91)).setCell ⟨gb714, 4, none⟩ (.slice Ao93 t739.length co93)).heap[gb712]? = some (.cells #[.int .i64 t715, .string t716, .string t717, .slice Ao77 t718.length co77, .slice Ao79 t721.length co79] 26 (0, 0))) := ⟨by (with_reducible repeat (first | refine blk_drewN ?_ _ | refine blk_drew ?_ | refine blk_alloc ?_ _)); refine blk_far ?_ NB712_714.out _; (with_reducible repeat (first | refine blk_drewN ?_ _ | refine blk_drew ?_ | refine blk_alloc ?_ _)); refine blk_far ?_ NB712_714.out _; (with_reducible repeat (first | refine blk_drewN ?_ _ | refine blk_drew ?_ | refine blk_alloc ?_ _)); refine blk_far ?_ NB712_714.out _; (with_reducible repeat (first | refine blk_drewN ?_ _ | refine blk_drew ?_ | refine blk_alloc ?_ _)); refine blk_far ?_ NB712_714.out _; (with_reducible repeat (first | refine blk_drewN ?_ _ | refine blk_drew ?_ | refine blk_alloc ?_ _)); refine blk_far ?_ NB712_714.out _; (with_reducible repeat (first | refine blk_drewN ?_ _ | refine blk_drew ?_ | refine blk_alloc ?_ _)); refine blk_far ?_ NB712_713.out _; (with_reducible repeat (first | refine blk_drewN ?_ _ | refine blk_drew ?_ | refine blk_alloc ?_ _)); refine blk_far ?_ NB712_713.out _; (with_reducible repeat (first | refine blk_drewN ?_ _ | refine blk_drew ?_ | refine blk_alloc ?_ _)); refine blk_far ?_ NB712_713.out _; (with_reducible repeat (first | refine blk_drewN ?_ _ | refine blk_drew ?_ | refine blk_alloc ?_ _)); refine blk_far ?_ NB712_713.out _; (with_reducible repeat (first | refine blk_drewN ?_ _ | refine blk_drew ?_ | refine blk_alloc ?_ _)); refine blk_far ?_ NB712_713.out _; (with_reducible repeat (first | refine blk_drewN ?_ _ | refine blk_drew ?_ | refine blk_alloc ?_ _)); refine blk_put (cs := #[.int .i64 t715, .string t716, .string t717, .slice Ao77 t718.length co77, .slice A0_4 l0_4.length c0_4]) ?_ 4 _ rfl; (with_reducible repeat (first | refine blk_drewN ?_ _ | refine blk_drew ?_ | refine blk_alloc ?_ _)); refine blk_put (cs := #[.int .i64 t715, .string t716, .string t717, .slice A0_3 l0_3.length c0_3, .slice A0_4 l0_4.length c0_4]) ?_ 3 _ rfl; (with_reducible repeat (first | refine blk_drewN ?_ _ | refine blk_drew ?_ | refine blk_alloc ?_ _)); refine blk_put (cs := #[.int .i64 t715, .string t716, .string a0_2, .slice A0_3 l0_3.length c0_3, .slice A0_4 l0_4.length c0_4]) ?_ 2 _ rfl; (with_reducible repeat (first | refine blk_drewN ?_ _ | refine blk_drew ?_ | refine blk_alloc ?_ _)); refine blk_put (cs := #[.int .i64 t715, .string a0_1, .string a0_2, .slice A0_3 l0_3.length c0_3, .slice A0_4 l0_4.length c0_4]) ?_ 1 _ rfl; (with_reducible repeat (first | refine blk_drewN ?_ _ | refine blk_drew ?_ | refine blk_alloc ?_ _)); refine blk_put (cs := #[.int .i64 a0_0, .string a0_1, .string a0_2, .slice A0_3 l0_3.length c0_3, .slice A0_4 l0_4.length c0_4]) ?_ 0 _ rfl; (with_reducible repeat (first | refine blk_drewN ?_ _ | refine blk_drew ?_ | refine blk_alloc ?_ _)); exact BK712.out⟩
          have n7_ : Aside0 ((((((((((((((((w73.setCell ⟨gb712, 0, none⟩ (.int .i64 t715)).setCell ⟨gb712, 1, none⟩ (.string t716)).setCell ⟨gb712, 2, none⟩ (.string t717)).setCell ⟨gb712, 3, none⟩ (.slice Ao77 t718.length co77)).setCell ⟨gb712, 4, none⟩ (.slice Ao79 t721.length co79)).setCell ⟨gb713, 0, none⟩ (.int .i64 t724)).setCell ⟨gb713, 1, none⟩ (.string t725)).setCell ⟨gb713, 2, none⟩ (.string t726)).setCell ⟨gb713, 3, none⟩ (.slice Ao84 t727.length co84)).setCell ⟨gb713, 4, none⟩ (.slice Ao86 t730.length co86)).setCell ⟨gb714, 0, none⟩ (.int .i64 t733)).setCell ⟨gb714, 1, none⟩ (.string t734)).setCell ⟨gb714, 2, none⟩ (.string t735)).setCell ⟨gb714, 3, none⟩ (.slice Ao91 t736.length co91)).setCell ⟨gb714, 4, none⟩ (.slice Ao93 t739.length co93)).heap[gb713]? = some (.cells #[.int .i64 t724, .string t725, .string t726, .slice Ao84 t727.length co84, .slice Ao86 t730.length co86] 26 (0, 0))) := ⟨by (with_reducible repeat (first | refine blk_drewN ?_ _ | refine blk_drew ?_ | refine blk_alloc ?_ _)); refine blk_far ?_ NB713_714.out _; (with_reducible repeat (first | refine blk_drewN ?_ _ | refine blk_drew ?_ | refine blk_alloc ?_ _)); refine blk_far ?_ NB713_714.out _; (with_reducible repeat (first | refine blk_drewN ?_ _ | refine blk_drew ?_ | refine blk_alloc ?_ _)); refine blk_far ?_ NB713_714.out _; (with_reducible repeat (first | refine blk_drewN ?_ _ | refine blk_drew ?_ | refine blk_alloc ?_ _)); refine blk_far ?_ NB713_714.out _; (with_reducible repeat (first | refine blk_drewN ?_ _ | refine blk_drew ?_ | refine blk_alloc ?_ _)); refine blk_far ?_ NB713_714.out _; (with_reducible repeat (first | refine blk_drewN ?_ _ | refine blk_drew ?_ | refine blk_alloc ?_ _)); refine blk_put (cs := #[.int .i64 t724, .string t725, .string t726, .slice Ao84 t727.length co84, .slice A1_4 l1_4.length c1_4]) ?_ 4 _ rfl; (with_reducible repeat (first | refine blk_drewN ?_ _ | refine blk_drew ?_ | refine blk_alloc ?_ _)); refine blk_put (cs := #[.int .i64 t724, .string t725, .string t726, .slice A1_3 l1_3.length c1_3, .slice A1_4 l1_4.length c1_4]) ?_ 3 _ rfl; (with_reducible repeat (first | refine blk_drewN ?_ _ | refine blk_drew ?_ | refine blk_alloc ?_ _)); refine blk_put (cs := #[.int .i64 t724, .string t725, .string a1_2, .slice A1_3 l1_3.length c1_3, .slice A1_4 l1_4.length c1_4]) ?_ 2 _ rfl; (with_reducible repeat (first | refine blk_drewN ?_ _ | refine blk_drew ?_ | refine blk_alloc ?_ _)); refine blk_put (cs := #[.int .i64 t724, .string a1_1, .string a1_2, .slice A1_3 l1_3.length c1_3, .slice A1_4 l1_4.length c1_4]) ?_ 1 _ rfl; (with_reducible repeat (first | refine blk_drewN ?_ _ | refine blk_drew ?_ | refine blk_alloc ?_ _)); refine blk_put (cs := #[.int .i64 a1_0, .string a1_1, .string a1_2, .slice A1_3 l1_3.length c1_3, .slice A1_4 l1_4.length c1_4]) ?_ 0 _ rfl; (with_reducible repeat (first | refine blk_drewN ?_ _ | refine blk_drew ?_ | refine blk_alloc ?_ _)); refine blk_far ?_ NB713_712.out _; (with_reducible repeat (first | refine blk_drewN ?_ _ | refine blk_drew ?_ | refine blk_alloc ?_ _)); refine blk_far ?_ NB713_712.out _; (with_reducible repeat (first | refine blk_drewN ?_ _ | refine blk_drew ?_ | refine blk_alloc ?_ _)); refine blk_far ?_ NB713_712.out _; (with_reducible repeat (first | refine blk_drewN ?_ _ | refine blk_drew ?_ | refine blk_alloc ?_ _)); refine blk_far ?_ NB713_712.out _; (with_reducible repeat (first | refine blk_drewN ?_ _ | refine blk_drew ?_ | refine blk_alloc ?_ _)); refine blk_far ?_ NB713_712.out _; (with_reducible repeat (first | refine blk_drewN ?_ _ | refine blk_drew ?_ | refine blk_alloc ?_ _)); exact BK713.out⟩
          have n8_ : Aside0 ((((((((((((((((w73.setCell ⟨gb712, 0, none⟩ (.int .i64 t715)).setCell ⟨gb712, 1, none⟩ (.string t716)).setCell ⟨gb712, 2, none⟩ (.string t717)).setCell ⟨gb712, 3, none⟩ (.slice Ao77 t718.length co77)).setCell ⟨gb712, 4, none⟩ (.slice Ao79 t721.length co79)).setCell ⟨gb713, 0, none⟩ (.int .i64 t724)).setCell ⟨gb713, 1, none⟩ (.string t725)).setCell ⟨gb713, 2, none⟩ (.string t726)).setCell ⟨gb713, 3, none⟩ (.slice Ao84 t727.length co84)).setCell ⟨gb713, 4, none⟩ (.slice Ao86 t730.length co86)).setCell ⟨gb714, 0, none⟩ (.int .i64 t733)).setCell ⟨gb714, 1, none⟩ (.string t734)).setCell ⟨gb714, 2, none⟩ (.string t735)).setCell ⟨gb714, 3, none⟩ (.slice Ao91 t736.length co91)).setCell ⟨gb714, 4, none⟩ (.slice Ao93 t739.length co93)).heap[gb714]? = some (.cells #[.int .i64 t733, .string t734, .string t735, .slice Ao91 t736.length co91, .slice Ao93 t739.length co93] 26 (0, 0))) := ⟨by (with_reducible repeat (first | refine blk_drewN ?_ _ | refine blk_drew ?_ | refine blk_alloc ?_ _)); refine blk_put (cs := #[.int .i64 t733, .string t734, .string t735, .slice Ao91 t736.length co91, .slice A2_4 l2_4.length c2_4]) ?_ 4 _ rfl; (with_reducible repeat (first | refine blk_drewN ?_ _ | refine blk_drew ?_ | refine blk_alloc ?_ _)); refine blk_put (cs := #[.int .i64 t733, .string t734, .string t735, .slice A2_3 l2_3.length c2_3, .slice A2_4 l2_4.length c2_4]) ?_ 3 _ rfl; (with_reducible repeat (first | refine blk_drewN ?_ _ | refine blk_drew ?_ | refine blk_alloc ?_ _)); refine blk_put (cs := #[.int .i64 t733, .string t734, .string a2_2, .slice A2_3 l2_3.length c2_3, .slice A2_4 l2_4.length c2_4]) ?_ 2 _ rfl; (with_reducible repeat (first | refine blk_drewN ?_ _ | refine blk_drew ?_ | refine blk_alloc ?_ _)); refine blk_put (cs := #[.int .i64 t733, .string a2_1, .string a2_2, .slice A2_3 l2_3.length c2_3, .slice A2_4 l2_4.length c2_4]) ?_ 1 _ rfl; (with_reducible repeat (first | refine blk_drewN ?_ _ | refine blk_drew ?_ | refine blk_alloc ?_ _)); refine blk_put (cs := #[.int .i64 a2_0, .string a2_1, .string a2_2, .slice A2_3 l2_3.length c2_3, .slice A2_4 l2_4.length c2_4]) ?_ 0 _ rfl; (with_reducible repeat (first | refine blk_drewN ?_ _ | refine blk_drew ?_ | refine blk_alloc ?_ _)); refine blk_far ?_ NB714_713.out _; (with_reducible repeat (first | refine blk_drewN ?_ _ | refine blk_drew ?_ | refine blk_alloc ?_ _)); refine blk_far ?_ NB714_713.out _; (with_reducible repeat (first | refine blk_drewN ?_ _ | refine blk_drew ?_ | refine blk_alloc ?_ _)); refine blk_far ?_ NB714_713.out _; (with_reducible repeat (first | refine blk_drewN ?_ _ | refine blk_drew ?_ | refine blk_alloc ?_ _)); refine blk_far ?_ NB714_713.out _; (with_reducible repeat (first | refine blk_drewN ?_ _ | refine blk_drew ?_ | refine blk_alloc ?_ _)); refine blk_far ?_ NB714_713.out _; (with_reducible repeat (first | refine blk_drewN ?_ _ | refine blk_drew ?_ | refine blk_alloc ?_ _)); refine blk_far ?_ NB714_712.out _; (with_reducible repeat (first | refine blk_drewN ?_ _ | refine blk_drew ?_ | refine blk_alloc ?_ _)); refine blk_far ?_ NB714_712.out _; (with_reducible repeat (first | refine blk_drewN ?_ _ | refine blk_drew ?_ | refine blk_alloc ?_ _)); refine blk_far ?_ NB714_712.out _; (with_reducible repeat (first | refine blk_drewN ?_ _ | refine blk_drew ?_ | refine blk_alloc ?_ _)); refine blk_far ?_ NB714_712.out _; (with_reducible repeat (first | refine blk_drewN ?_ _ | refine blk_drew ?_ | refine blk_alloc ?_ _)); refine blk_far ?_ NB714_712.out _; (with_reducible repeat (first | refine blk_drewN ?_ _ | refine blk_drew ?_ | refine blk_alloc ?_ _)); exact BK714.out⟩
          have n9_ : Aside0 (Below w.heap.size w (((((((((((((((w73.setCell ⟨gb712, 0, none⟩ (.int .i64 t715)).setCell ⟨gb712, 1, none⟩ (.string t716)).setCell ⟨gb712, 2, none⟩ (.string t717)).setCell ⟨gb712, 3, none⟩ (.slice Ao77 t718.length co77)).setCell ⟨gb712, 4, none⟩ (.slice Ao79 t721.length co79)).setCell ⟨gb713, 0, none⟩ (.int .i64 t724)).setCell ⟨gb713, 1, none⟩ (.string t725)).setCell ⟨gb713, 2, none⟩ (.string t726)).setCell ⟨gb713, 3, none⟩ (.slice Ao84 t727.length co84)).setCell ⟨gb713, 4, none⟩ (.slice Ao86 t730.length co86)).setCell ⟨gb714, 0, none⟩ (.int .i64 t733)).setCell ⟨gb714, 1, none⟩ (.string t734)).setCell ⟨gb714, 2, none⟩ (.string t735)).setCell ⟨gb714, 3, none⟩ (.slice Ao91 t736.length co91)).setCell ⟨gb714, 4, none⟩ (.slice Ao93 t739.length co93))) := ⟨bel_ HB.out⟩
          (try clear HO720)
          (try clear HO723)
          (try clear HO729)
          (try clear HO732)
          (try clear HO738)
          (try clear HO741)
          (try clear BK712)
          (try clear BK713)
          (try clear BK714)
          (try clear HB)
          generalize (((((((((((((((w73.setCell ⟨gb712, 0, none⟩ (.int .i64 t715)).setCell ⟨gb712, 1, none⟩ (.string t716)).setCell ⟨gb712, 2, none⟩ (.string t717)).setCell ⟨gb712, 3, none⟩ (.slice Ao77 t718.length co77)).setCell ⟨gb712, 4, none⟩ (.slice Ao79 t721.length co79)).setCell ⟨gb713, 0, none⟩ (.int .i64 t724)).setCell ⟨gb713, 1, none⟩ (.string t725)).setCell ⟨gb713, 2, none⟩ (.string t726)).setCell ⟨gb713, 3, none⟩ (.slice Ao84 t727.length co84)).setCell ⟨gb713, 4, none⟩ (.slice Ao86 t730.length co86)).setCell ⟨gb714, 0, none⟩ (.int .i64 t733)).setCell ⟨gb714, 1, none⟩ (.string t734)).setCell ⟨gb714, 2, none⟩ (.string t735)).setCell ⟨gb714, 3, none⟩ (.slice Ao91 t736.length co91)).setCell ⟨gb714, 4, none⟩ (.slice Ao93 t739.length co93)) = w95 at n0_ n1_ n2_ n3_ n4_ n5_ n6_ n7_ n8_ n9_ ⊢
          have HO720 := n0_
          have HO723 := n1_
          have HO729 := n2_
          have HO732 := n3_
          have HO738 := n4_
          have HO741 := n5_
          have BK712 := n6_
          have BK713 := n7_
          have BK714 := n8_
          have HB := n9_
          clear n0_ n1_ n2_ n3_ n4_ n5_ n6_ n7_ n8_ n9_
          have n0_ := am_ (Kd.R_drew HO720.out)
          have n1_ := am_ (Kd.R_drew HO723.out)
          have n2_ := am_ (Kd.R_drew HO729.out)
          have n3_ := am_ (Kd.R_drew HO732.out)
          have n4_ := am_ (Kd.R_drew HO738.out)
          have n5_ := am_ (Kd.R_drew HO741.out)
          have n6_ := am_ (blk_drew BK712.out)
          have n7_ := am_ (blk_drew BK713.out)
          have n8_ := am_ (blk_drew BK714.out)
          have n9_ := am_ (below_drew1 HB.out)
          clear HO720 HO723 HO729 HO732 HO738 HO741 BK712 BK713 BK714 HB
          have HO720 := n0_
          have HO723 := n1_
          have HO729 := n2_
          have HO732 := n3_
          have HO738 := n4_
          have HO741 := n5_
          have BK712 := n6_
          have BK713 := n7_
          have BK714 := n8_
          have HB := n9_
          clear n0_ n1_ n2_ n3_ n4_ n5_ n6_ n7_ n8_ n9_
          refine start_ (n := 12) (S := fun w' => w'.cell? ⟨gb712, 0, none⟩ = some (.int .i64 t715) ∧ w'.cell? ⟨gb712, 1, none⟩ = some (.string t716) ∧ w'.cell? ⟨gb712, 2, none⟩ = some (.string t717) ∧ w'.cell? ⟨gb712, 3, none⟩ = some (.slice Ao77 t718.length co77) ∧ w'.cell? ⟨gb712, 4, none⟩ = some (.slice Ao79 t721.length co79) ∧ w'.cell? ⟨gb713, 0, none⟩ = some (.int .i64 t724) ∧ w'.cell? ⟨gb713, 1, none⟩ = some (.string t725) ∧ w'.cell? ⟨gb713, 2, none⟩ = some (.string t726) ∧ w'.cell? ⟨gb713, 3, none⟩ = some (.slice Ao84 t727.length co84) ∧ w'.cell? ⟨gb713, 4, none⟩ = some (.slice Ao86 t730.length co86) ∧ w'.cell? ⟨gb714, 0, none⟩ = some (.int .i64 t733) ∧ w'.cell? ⟨gb714, 1, none⟩ = some (.string t734) ∧ w'.cell? ⟨gb714, 2, none⟩ = some (.string t735) ∧ w'.cell? ⟨gb714, 3, none⟩ = some (.slice Ao91 t736.length co91) ∧ w'.cell? ⟨gb714, 4, none⟩ = some (.slice Ao93 t739.length co93)) (ds := []) #[false, false, false, false, false, false, false, false, false, false, false, false] kr_ rfl rfl ⟨(blk_cell BK712.out 0).trans rfl, (blk_cell BK712.out 1).trans rfl, (blk_cell BK712.out 2).trans rfl, (blk_cell BK712.out 3).trans rfl, (blk_cell BK712.out 4).trans rfl, (blk_cell BK713.out 0).trans rfl, (blk_cell BK713.out 1).trans rfl, (blk_cell BK713.out 2).trans rfl, (blk_cell BK713.out 3).trans rfl, (blk_cell BK713.out 4).trans rfl, (blk_cell BK714.out 0).trans rfl, (blk_cell BK714.out 1).trans rfl, (blk_cell BK714.out 2).trans rfl, (blk_cell BK714.out 3).trans rfl, (blk_cell BK714.out 4).trans rfl⟩ (fun hHeld => ?_); refine with_tabW tolllaw06_RuleRanks_g1.tab2 tolllaw06_RuleRanks_g1.bits2 (fun HT_ HW_ => ?_)
          generalize w95.drew = w96 at HO720 HO723 HO729 HO732 HO738 HO741 BK712 BK713 BK714 HB hHeld ⊢
          refine take_ (i := 0) (N := some 16) (v := ?_) (a' := ?_) #[true, false, false, false, false, false, false, false, false, false, false, false] rfl rfl (take_ofW HT_.out HW_.out kr_) (fun _ _ _ h => h) (Or.inl ⟨by rfl, ?_⟩) hHeld ?_ ?_
          rotate_left
          ·rintro w' ⟨s0, s1, s2, s3, s4, s5, s6, s7, s8, s9, s10, s11, s12, s13, s14⟩
           go_simp
           with_reducible rfl
          rotate_left
          ·simp only [Act.put, sx_, s0_, s1_, i64_w, i32_w]
           rfl
          refine take_ (i := 1) (N := some 17) (v := ?_) (a' := ?_) #[true, true, false, false, false, false, false, false, false, false, false, false] rfl rfl (take_ofW HT_.out HW_.out kr_) (fun _ _ _ h => h) (Or.inl ⟨by rfl, ?_⟩) hHeld ?_ ?_
          rotate_left
          ·rintro w' ⟨s0, s1, s2, s3, s4, s5, s6, s7, s8, s9, s10, s11, s12, s13, s14⟩
           go_simp
           with_reducible rfl
          rotate_left
          ·simp only [Act.put, sx_, s0_, s1_, i64_w, i32_w]
           rfl
          refine take_ (i := 3) (N := some 19) (v := ?_) (a' := ?_) #[true, true, false, true, false, false, false, false, false, false, false, false] rfl rfl (take_ofW HT_.out HW_.out kr_) (fun _ _ _ h => h) (Or.inl ⟨by rfl, ?_⟩) hHeld ?_ ?_
          rotate_left
          ·rintro w' ⟨s0, s1, s2, s3, s4, s5, s6, s7, s8, s9, s10, s11, s12, s13, s14⟩
           go_simp
           with_reducible rfl
          rotate_left
          ·simp only [Act.put, sx_, s0_, s1_, i64_w, i32_w]
           rfl
          refine take_ (i := 4) (N := some 20) (v := ?_) (a' := ?_) #[true, true, false, true, true, false, false, false, false, false, false, false] rfl rfl (take_ofW HT_.out HW_.out kr_) (fun _ _ _ h => h) (Or.inl ⟨by rfl, ?_⟩) hHeld ?_ ?_
          rotate_left
          ·rintro w' ⟨s0, s1, s2, s3, s4, s5, s6, s7, s8, s9, s10, s11, s12, s13, s14⟩
           go_simp
           with_reducible rfl
          rotate_left
          ·simp only [Act.put, sx_, s0_, s1_, i64_w, i32_w]
           rfl
          refine take_ (i := 6) (N := some 22) (v := ?_) (a' := ?_) #[true, true, false, true, true, false, true, false, false, false, false, false] rfl rfl (take_ofW HT_.out HW_.out kr_) (fun _ _ _ h => h) (Or.inl ⟨by rfl, ?_⟩) hHeld ?_ ?_
          rotate_left
          ·rintro w' ⟨s0, s1, s2, s3, s4, s5, s6, s7, s8, s9, s10, s11, s12, s13, s14⟩
           go_simp
           with_reducible rfl
          rotate_left
          ·simp only [Act.put, sx_, s0_, s1_, i64_w, i32_w]
           rfl
          refine take_ (i := 7) (N := some 23) (v := ?_) (a' := ?_) #[true, true, false, true, true, false, true, true, false, false, false, false] rfl rfl (take_ofW HT_.out HW_.out kr_) (fun _ _ _ h => h) (Or.inl ⟨by rfl, ?_⟩) hHeld ?_ ?_
          rotate_left
          ·rintro w' ⟨s0, s1, s2, s3, s4, s5, s6, s7, s8, s9, s10, s11, s12, s13, s14⟩
           go_simp
           with_reducible rfl
          rotate_left
          ·simp only [Act.put, sx_, s0_, s1_, i64_w, i32_w]
           rfl
          refine one_ (i := 2) (N := some 18) #[true, true, true, true, true, false, true, true, false, false, false, false] rfl rfl (one_of HT_.out kr_) (by decide) (fun K hK => ?_)
          refine goes_ Tryd.func19 kr_ rfl #[.agg #[.int .i64 t715, .string t716, .string t717, .slice Ao77 t718.length co77, .slice Ao79 t721.length co79], .agg #[.int .i64 t724, .string t725, .string t726, .slice Ao84 t727.length co84, .slice Ao86 t730.length co86]] (by rfl) rfl rfl rl_ ?_
          with_reducible refine (rule_Order.calls t715 t716 t717 _ _ t718 _ _ t721 t724 t725 t726 _ _ t727 _ _ t730 t742 _ ?side1 ?side2 ?side3 ?side4 ?side5 ?side6 ?side7 ?side8 A7.out).mono ?_
          (case side1 => exact C_ (Kd.R_reads' HO720.out).2.2)
          (case side2 => exact (Kd.R_reads' HO720.out).2.1)
          (case side3 => exact C_ (Kd.R_reads' HO723.out).2.2)
          (case side4 => exact (Kd.R_reads' HO723.out).2.1)
          (case side5 => exact C_ (Kd.R_reads' HO729.out).2.2)
          (case side6 => exact (Kd.R_reads' HO729.out).2.1)
          (case side7 => exact C_ (Kd.R_reads' HO732.out).2.2)
          (case side8 => exact (Kd.R_reads' HO732.out).2.1)
          rintro e w97 ⟨rfl, hb⟩
          refine ⟨_, rfl, ?_⟩
          have n0_ := am_ (Kd.R_below (R_ HO720.out) hb)
          have n1_ := am_ (Kd.R_below (R_ HO723.out) hb)
          have n2_ := am_ (Kd.R_below (R_ HO729.out) hb)
          have n3_ := am_ (Kd.R_below (R_ HO732.out) hb)
          have n4_ := am_ (Kd.R_below (R_ HO738.out) hb)
          have n5_ := am_ (Kd.R_below (R_ HO741.out) hb)
          have n6_ := am_ (blk_below (g := gb712) (o := .cells #[.int .i64 t715, .string t716, .string t717, .slice Ao77 t718.length co77, .slice Ao79 t721.length co79] 26 (0, 0)) (blk_ BK712.out) hb)
          have n7_ := am_ (blk_below (g := gb713) (o := .cells #[.int .i64 t724, .string t725, .string t726, .slice Ao84 t727.length co84, .slice Ao86 t730.length co86] 26 (0, 0)) (blk_ BK713.out) hb)
          have n8_ := am_ (blk_below (g := gb714) (o := .cells #[.int .i64 t733, .string t734, .string t735, .slice Ao91 t736.length co91, .slice Ao93 t739.length co93] 26 (0, 0)) (blk_ BK714.out) hb)
          have n9_ := am_ (below_step (bel_ HB.out) hb)
          clear HO720 HO723 HO729 HO732 HO738 HO741 BK712 BK713 BK714 HB
          have HO720 := n0_
          have HO723 := n1_
          have HO729 := n2_
          have HO732 := n3_
          have HO738 := n4_
          have HO741 := n5_
          have BK712 := n6_
          have BK713 := n7_
          have BK714 := n8_
          have HB := n9_
          clear n0_ n1_ n2_ n3_ n4_ n5_ n6_ n7_ n8_ n9_
          (try clear hb)
          (try clear hb2)
          (try clear hk)
          (try clear hi)
          refine hK.out _ _ ⟨(blk_cell BK712.out 0).trans rfl, (blk_cell BK712.out 1).trans rfl, (blk_cell BK712.out 2).trans rfl, (blk_cell BK712.out 3).trans rfl, (blk_cell BK712.out 4).trans rfl, (blk_cell BK713.out 0).trans rfl, (blk_cell BK713.out 1).trans rfl, (blk_cell BK713.out 2).trans rfl, (blk_cell BK713.out 3).trans rfl, (blk_cell BK713.out 4).trans rfl, (blk_cell BK714.out 0).trans rfl, (blk_cell BK714.out 1).trans rfl, (blk_cell BK714.out 2).trans rfl, (blk_cell BK714.out 3).trans rfl, (blk_cell BK714.out 4).trans rfl⟩ (fun hHeld => ?_)
          clear hK K
          refine norm_ (a' := ?_) ?_ ?_
          rotate_left
          ·show Act.put _ (some 18) _ = _
           simp only [Act.put, sx_, s0_, s1_, i64_w, i32_w]
           rfl
          refine one_ (i := 5) (N := some 21) #[true, true, true, true, true, true, true, true, false, false, false, false] rfl rfl (one_of HT_.out kr_) (by decide) (fun K hK => ?_)
          refine goes_ Tryd.func19 kr_ rfl #[.agg #[.int .i64 t724, .string t725, .string t726, .slice Ao84 t727.length co84, .slice Ao86 t730.length co86], .agg #[.int .i64 t733, .string t734, .string t735, .slice Ao91 t736.length co91, .slice Ao93 t739.length co93]] (by rfl) rfl rfl rl_ ?_
          with_reducible refine (rule_Order.calls t724 t725 t726 _ _ t727 _ _ t730 t733 t734 t735 _ _ t736 _ _ t739 t743 _ ?side1 ?side2 ?side3 ?side4 ?side5 ?side6 ?side7 ?side8 A8.out).mono ?_
          (case side1 => exact C_ (Kd.R_reads' HO729.out).2.2)
          (case side2 => exact (Kd.R_reads' HO729.out).2.1)
          (case side3 => exact C_ (Kd.R_reads' HO732.out).2.2)
          (case side4 => exact (Kd.R_reads' HO732.out).2.1)
          (case side5 => exact C_ (Kd.R_reads' HO738.out).2.2)
          (case side6 => exact (Kd.R_reads' HO738.out).2.1)
          (case side7 => exact C_ (Kd.R_reads' HO741.out).2.2)
          (case side8 => exact (Kd.R_reads' HO741.out).2.1)
          rintro e w98 ⟨rfl, hb⟩
          refine ⟨_, rfl, ?_⟩
          have n0_ := am_ (Kd.R_below (R_ HO720.out) hb)
          have n1_ := am_ (Kd.R_below (R_ HO723.out) hb)
          have n2_ := am_ (Kd.R_below (R_ HO729.out) hb)
          have n3_ := am_ (Kd.R_below (R_ HO732.out) hb)
          have n4_ := am_ (Kd.R_below (R_ HO738.out) hb)
          have n5_ := am_ (Kd.R_below (R_ HO741.out) hb)
          have n6_ := am_ (blk_below (g := gb712) (o := .cells #[.int .i64 t715, .string t716, .string t717, .slice Ao77 t718.length co77, .slice Ao79 t721.length co79] 26 (0, 0)) (blk_ BK712.out) hb)
          have n7_ := am_ (blk_below (g := gb713) (o := .cells #[.int .i64 t724, .string t725, .string t726, .slice Ao84 t727.length co84, .slice Ao86 t730.length co86] 26 (0, 0)) (blk_ BK713.out) hb)
          have n8_ := am_ (blk_below (g := gb714) (o := .cells #[.int .i64 t733, .string t734, .string t735, .slice Ao91 t736.length co91, .slice Ao93 t739.length co93] 26 (0, 0)) (blk_ BK714.out) hb)
          have n9_ := am_ (below_step (bel_ HB.out) hb)
          clear HO720 HO723 HO729 HO732 HO738 HO741 BK712 BK713 BK714 HB
          have HO720 := n0_
          have HO723 := n1_
          have HO729 := n2_
          have HO732 := n3_
          have HO738 := n4_
          have HO741 := n5_
          have BK712 := n6_
          have BK713 := n7_
          have BK714 := n8_
          have HB := n9_
          clear n0_ n1_ n2_ n3_ n4_ n5_ n6_ n7_ n8_ n9_
          (try clear hb)
          (try clear hb2)
          (try clear hk)
          (try clear hi)
          refine hK.out _ _ ⟨(blk_cell BK712.out 0).trans rfl, (blk_cell BK712.out 1).trans rfl, (blk_cell BK712.out 2).trans rfl, (blk_cell BK712.out 3).trans rfl, (blk_cell BK712.out 4).trans rfl, (blk_cell BK713.out 0).trans rfl, (blk_cell BK713.out 1).trans rfl, (blk_cell BK713.out 2).trans rfl, (blk_cell BK713.out 3).trans rfl, (blk_cell BK713.out 4).trans rfl, (blk_cell BK714.out 0).trans rfl, (blk_cell BK714.out 1).trans rfl, (blk_cell BK714.out 2).trans rfl, (blk_cell BK714.out 3).trans rfl, (blk_cell BK714.out 4).trans rfl⟩ (fun hHeld => ?_)
          clear hK K
          refine norm_ (a' := ?_) ?_ ?_
          rotate_left
          ·show Act.put _ (some 21) _ = _
           simp only [Act.put, sx_, s0_, s1_, i64_w, i32_w]
           rfl
          refine one_ (i := 8) (N := some 24) #[true, true, true, true, true, true, true, true, true, false, false, false] rfl rfl (one_of HT_.out kr_) (by decide) (fun K hK => ?_)
          refine goes_ Tryd.func19 kr_ rfl #[.agg #[.int .i64 t715, .string t716, .string t717, .slice Ao77 t718.length co77, .slice Ao79 t721.length co79], .agg #[.int .i64 t733, .string t734, .string t735, .slice Ao91 t736.length co91, .slice Ao93 t739.length co93]] (by rfl) rfl rfl rl_ ?_
          with_reducible refine (rule_Order.calls t715 t716 t717 _ _ t718 _ _ t721 t733 t734 t735 _ _ t736 _ _ t739 t744 _ ?side1 ?side2 ?side3 ?side4 ?side5 ?side6 ?side7 ?side8 A9.out).mono ?_
          (case side1 => exact C_ (Kd.R_reads' HO720.out).2.2)
          (case side2 => exact (Kd.R_reads' HO720.out).2.1)
          (case side3 => exact C_ (Kd.R_reads' HO723.out).2.2)
          (case side4 => exact (Kd.R_reads' HO723.out).2.1)
          (case side5 => exact C_ (Kd.R_reads' HO738.out).2.2)
          (case side6 => exact (Kd.R_reads' HO738.out).2.1)
          (case side7 => exact C_ (Kd.R_reads' HO741.out).2.2)
          (case side8 => exact (Kd.R_reads' HO741.out).2.1)
          rintro e w99 ⟨rfl, hb⟩
          refine ⟨_, rfl, ?_⟩
          have n0_ := am_ (Kd.R_below (R_ HO720.out) hb)
          have n1_ := am_ (Kd.R_below (R_ HO723.out) hb)
          have n2_ := am_ (Kd.R_below (R_ HO729.out) hb)
          have n3_ := am_ (Kd.R_below (R_ HO732.out) hb)
          have n4_ := am_ (Kd.R_below (R_ HO738.out) hb)
          have n5_ := am_ (Kd.R_below (R_ HO741.out) hb)
          have n6_ := am_ (blk_below (g := gb712) (o := .cells #[.int .i64 t715, .string t716, .string t717, .slice Ao77 t718.length co77, .slice Ao79 t721.length co79] 26 (0, 0)) (blk_ BK712.out) hb)
          have n7_ := am_ (blk_below (g := gb713) (o := .cells #[.int .i64 t724, .string t725, .string t726, .slice Ao84 t727.length co84, .slice Ao86 t730.length co86] 26 (0, 0)) (blk_ BK713.out) hb)
          have n8_ := am_ (blk_below (g := gb714) (o := .cells #[.int .i64 t733, .string t734, .string t735, .slice Ao91 t736.length co91, .slice Ao93 t739.length co93] 26 (0, 0)) (blk_ BK714.out) hb)
          have n9_ := am_ (below_step (bel_ HB.out) hb)
          clear HO720 HO723 HO729 HO732 HO738 HO741 BK712 BK713 BK714 HB
          have HO720 := n0_
          have HO723 := n1_
          have HO729 := n2_
          have HO732 := n3_
          have HO738 := n4_
          have HO741 := n5_
          have BK712 := n6_
          have BK713 := n7_
          have BK714 := n8_
          have HB := n9_
          clear n0_ n1_ n2_ n3_ n4_ n5_ n6_ n7_ n8_ n9_
          (try clear hb)
          (try clear hb2)
          (try clear hk)
          (try clear hi)
          refine hK.out _ _ ⟨(blk_cell BK712.out 0).trans rfl, (blk_cell BK712.out 1).trans rfl, (blk_cell BK712.out 2).trans rfl, (blk_cell BK712.out 3).trans rfl, (blk_cell BK712.out 4).trans rfl, (blk_cell BK713.out 0).trans rfl, (blk_cell BK713.out 1).trans rfl, (blk_cell BK713.out 2).trans rfl, (blk_cell BK713.out 3).trans rfl, (blk_cell BK713.out 4).trans rfl, (blk_cell BK714.out 0).trans rfl, (blk_cell BK714.out 1).trans rfl, (blk_cell BK714.out 2).trans rfl, (blk_cell BK714.out 3).trans rfl, (blk_cell BK714.out 4).trans rfl⟩ (fun hHeld => ?_)
          clear hK K
          refine norm_ (a' := ?_) ?_ ?_
          rotate_left
          ·show Act.put _ (some 24) _ = _
           simp only [Act.put, sx_, s0_, s1_, i64_w, i32_w]
           rfl
          refine pure_ (i := 9) (N := some 7) (v := ?_) (a' := ?_) #[true, true, true, true, true, true, true, true, true, true, false, false] rfl rfl (any_of HT_.out kr_) (fun _ _ _ h => h) (Or.inl ⟨by rfl, ?_⟩) ?_ ?_
          rotate_left
          ·intro w'
           go_simp
           with_reducible rfl
          rotate_left
          ·simp only [Act.put, sx_, s0_, s1_, i64_w, i32_w]
           rfl
          refine pure_ (i := 10) (N := some 8) (v := ?_) (a' := ?_) #[true, true, true, true, true, true, true, true, true, true, true, false] rfl rfl (any_of HT_.out kr_) (fun _ _ _ h => h) (Or.inl ⟨by rfl, ?_⟩) ?_ ?_
          rotate_left
          ·intro w'
           go_simp
           with_reducible rfl
          rotate_left
          ·simp only [Act.put, sx_, s0_, s1_, i64_w, i32_w]
           rfl
          refine pure_ (i := 11) (N := some 9) (v := ?_) (a' := ?_) #[true, true, true, true, true, true, true, true, true, true, true, true] rfl rfl (any_of HT_.out kr_) (fun _ _ _ h => h) (Or.inl ⟨by rfl, ?_⟩) ?_ ?_
          rotate_left
          ·intro w'
           go_simp
           with_reducible rfl
          rotate_left
          ·simp only [Act.put, sx_, s0_, s1_, i64_w, i32_w]
           rfl
          refine done_ (done_of HT_.out kr_) ?_
          have hnb100 := NB713_712.out
          have hnc100 := NB712_713.out
          have hnb101 := NB713_714.out
          have hnc101 := NB714_713.out
          have hcz102_0 : w99.cell? ⟨gb713, 0, none⟩ = some (.int .i64 t724) := (blk_cell BK713.out 0).trans rfl
          have hcz102_1 : w99.cell? ⟨gb713, 1, none⟩ = some (.string t725) := (blk_cell BK713.out 1).trans rfl
          have hcz102_2 : w99.cell? ⟨gb713, 2, none⟩ = some (.string t726) := (blk_cell BK713.out 2).trans rfl
          have hcz102_3 : w99.cell? ⟨gb713, 3, none⟩ = some (.slice Ao84 t727.length co84) := (blk_cell BK713.out 3).trans rfl
          have hcz102_4 : w99.cell? ⟨gb713, 4, none⟩ = some (.slice Ao86 t730.length co86) := (blk_cell BK713.out 4).trans rfl
          have hfz102_0 := blk_frozen BK713.out 0
          have hfz102_1 := blk_frozen BK713.out 1
          have hfz102_2 := blk_frozen BK713.out 2
          have hfz102_3 := blk_frozen BK713.out 3
          have hfz102_4 := blk_frozen BK713.out 4
          have hnb103 := NB712_714.out
          have hnc103 := NB714_712.out
          have hcz104_0 : w99.cell? ⟨gb712, 0, none⟩ = some (.int .i64 t715) := (blk_cell BK712.out 0).trans rfl
          have hcz104_1 : w99.cell? ⟨gb712, 1, none⟩ = some (.string t716) := (blk_cell BK712.out 1).trans rfl
          have hcz104_2 : w99.cell? ⟨gb712, 2, none⟩ = some (.string t717) := (blk_cell BK712.out 2).trans rfl
          have hcz104_3 : w99.cell? ⟨gb712, 3, none⟩ = some (.slice Ao77 t718.length co77) := (blk_cell BK712.out 3).trans rfl
          have hcz104_4 : w99.cell? ⟨gb712, 4, none⟩ = some (.slice Ao79 t721.length co79) := (blk_cell BK712.out 4).trans rfl
          have hfz104_0 := blk_frozen BK712.out 0
          have hfz104_1 := blk_frozen BK712.out 1
          have hfz104_2 := blk_frozen BK712.out 2
          have hfz104_3 := blk_frozen BK712.out 3
          have hfz104_4 := blk_frozen BK712.out 4
          try go_wp2_with (first | ((with_reducible refine gate_callee (f := 19) rfl ?_); refine goesL_ (some 27) rfl rfl Tryd.func19 kr_ rfl #[.agg #[.int .i64 t724, .string t725, .string t726, .slice Ao84 t727.length co84, .slice Ao86 t730.length co86], .agg #[.int .i64 t715, .string t716, .string t717, .slice Ao77 t718.length co77, .slice Ao79 t721.length co79]] rfl rl_ ?_; (with_reducible refine (rule_Order.calls t724 t725 t726 _ _ t727 _ _ t730 t715 t716 t717 _ _ t718 _ _ t721 t745 _ ?side1 ?side2 ?side3 ?side4 ?side5 ?side6 ?side7 ?side8 A10.out).mono ?_); (case side1 => exact C_ (Kd.R_reads' HO729.out).2.2); (case side2 => exact (Kd.R_reads' HO729.out).2.1); (case side3 => exact C_ (Kd.R_reads' HO732.out).2.2); (case side4 => exact (Kd.R_reads' HO732.out).2.1); (case side5 => exact C_ (Kd.R_reads' HO720.out).2.2); (case side6 => exact (Kd.R_reads' HO720.out).2.1); (case side7 => exact C_ (Kd.R_reads' HO723.out).2.2); (case side8 => exact (Kd.R_reads' HO723.out).2.1); rintro e w105 ⟨rfl, hb⟩; refine ⟨_, rfl, ?_⟩; have n0_ := am_ (Kd.R_below (R_ HO720.out) hb); have n1_ := am_ (Kd.R_below (R_ HO723.out) hb); have n2_ := am_ (Kd.R_below (R_ HO729.out) hb); have n3_ := am_ (Kd.R_below (R_ HO732.out) hb); have n4_ := am_ (Kd.R_below (R_ HO738.out) hb); have n5_ := am_ (Kd.R_below (R_ HO741.out) hb); have n6_ := am_ (blk_below (g := gb712) (o := .cells #[.int .i64 t715, .string t716, .string t717, .slice Ao77 t718.length co77, .slice Ao79 t721.length co79] 26 (0, 0)) (blk_ BK712.out) hb); have n7_ := am_ (blk_below (g := gb713) (o := .cells #[.int .i64 t724, .string t725, .string t726, .slice Ao84 t727.length co84, .slice Ao86 t730.length co86] 26 (0, 0)) (blk_ BK713.out) hb); have n8_ := am_ (blk_below (g := gb714) (o := .cells #[.int .i64 t733, .string t734, .string t735, .slice Ao91 t736.length co91, .slice Ao93 t739.length co93] 26 (0, 0)) (blk_ BK714.out) hb); have n9_ := am_ (below_step (bel_ HB.out) hb); clear HO720 HO723 HO729 HO732 HO738 HO741 BK712 BK713 BK714 HB; have HO720 := n0_; have HO723 := n1_; have HO729 := n2_; have HO732 := n3_; have HO738 := n4_; have HO741 := n5_; have BK712 := n6_; have BK713 := n7_; have BK714 := n8_; have HB := n9_; clear n0_ n1_ n2_ n3_ n4_ n5_ n6_ n7_ n8_ n9_; (try clear hb); (try clear hb2); (try clear hk); (try clear hi); have hcz106_0 : w105.cell? ⟨gb712, 0, none⟩ = some (.int .i64 t715) := (blk_cell BK712.out 0).trans rfl; have hcz106_1 : w105.cell? ⟨gb712, 1, none⟩ = some (.string t716) := (blk_cell BK712.out 1).trans rfl; have hcz106_2 : w105.cell? ⟨gb712, 2, none⟩ = some (.string t717) := (blk_cell BK712.out 2).trans rfl; have hcz106_3 : w105.cell? ⟨gb712, 3, none⟩ = some (.slice Ao77 t718.length co77) := (blk_cell BK712.out 3).trans rfl; have hcz106_4 : w105.cell? ⟨gb712, 4, none⟩ = some (.slice Ao79 t721.length co79) := (blk_cell BK712.out 4).trans rfl; have hfz106_0 := blk_frozen BK712.out 0; have hfz106_1 := blk_frozen BK712.out 1; have hfz106_2 := blk_frozen BK712.out 2; have hfz106_3 := blk_frozen BK712.out 3; have hfz106_4 := blk_frozen BK712.out 4) | (go_at_call 19; (with_reducible refine (rule_Order.calls t715 t716 t717 _ _ t718 _ _ t721 t715 t716 t717 _ _ t718 _ _ t721 t746 _ ?side1 ?side2 ?side3 ?side4 ?side5 ?side6 ?side7 ?side8 A12.out).mono ?_); (case side1 => exact C_ (Kd.R_reads' HO720.out).2.2); (case side2 => exact (Kd.R_reads' HO720.out).2.1); (case side3 => exact C_ (Kd.R_reads' HO723.out).2.2); (case side4 => exact (Kd.R_reads' HO723.out).2.1); (case side5 => exact C_ (Kd.R_reads' HO720.out).2.2); (case side6 => exact (Kd.R_reads' HO720.out).2.1); (case side7 => exact C_ (Kd.R_reads' HO723.out).2.2); (case side8 => exact (Kd.R_reads' HO723.out).2.1); rintro e w107 ⟨rfl, hb⟩; have n0_ := am_ (Kd.R_below (R_ HO720.out) hb); have n1_ := am_ (Kd.R_below (R_ HO723.out) hb); have n2_ := am_ (Kd.R_below (R_ HO729.out) hb); have n3_ := am_ (Kd.R_below (R_ HO732.out) hb); have n4_ := am_ (Kd.R_below (R_ HO738.out) hb); have n5_ := am_ (Kd.R_below (R_ HO741.out) hb); have n6_ := am_ (blk_below (g := gb712) (o := .cells #[.int .i64 t715, .string t716, .string t717, .slice Ao77 t718.length co77, .slice Ao79 t721.length co79] 26 (0, 0)) (blk_ BK712.out) hb); have n7_ := am_ (blk_below (g := gb713) (o := .cells #[.int .i64 t724, .string t725, .string t726, .slice Ao84 t727.length co84, .slice Ao86 t730.length co86] 26 (0, 0)) (blk_ BK713.out) hb); have n8_ := am_ (blk_below (g := gb714) (o := .cells #[.int .i64 t733, .string t734, .string t735, .slice Ao91 t736.length co91, .slice Ao93 t739.length co93] 26 (0, 0)) (blk_ BK714.out) hb); have n9_ := am_ (below_step (bel_ HB.out) hb); clear HO720 HO723 HO729 HO732 HO738 HO741 BK712 BK713 BK714 HB; have HO720 := n0_; have HO723 := n1_; have HO729 := n2_; have HO732 := n3_; have HO738 := n4_; have HO741 := n5_; have BK712 := n6_; have BK713 := n7_; have BK714 := n8_; have HB := n9_; clear n0_ n1_ n2_ n3_ n4_ n5_ n6_ n7_ n8_ n9_; (try clear hb); (try clear hb2); (try clear hk); (try clear hi)) | ((with_reducible refine gate_callee (f := 18) rfl ?_); refine goesL_ (some 73) rfl rfl Tryd.func18 kr_ rfl #[] rfl rl_ ?_; (with_reducible refine (tolllaw06_awake.calls  t750 _ A66.out).mono ?_); rintro e w108 ⟨rfl, hb⟩; refine ⟨_, rfl, ?_⟩; have n0_ := am_ (Kd.R_below (R_ HO720.out) hb); have n1_ := am_ (Kd.R_below (R_ HO723.out) hb); have n2_ := am_ (Kd.R_below (R_ HO729.out) hb); have n3_ := am_ (Kd.R_below (R_ HO732.out) hb); have n4_ := am_ (Kd.R_below (R_ HO738.out) hb); have n5_ := am_ (Kd.R_below (R_ HO741.out) hb); have n6_ := am_ (blk_below (g := gb712) (o := .cells #[.int .i64 t715, .string t716, .string t717, .slice Ao77 t718.length co77, .slice Ao79 t721.length co79] 26 (0, 0)) (blk_ BK712.out) hb); have n7_ := am_ (blk_below (g := gb713) (o := .cells #[.int .i64 t724, .string t725, .string t726, .slice Ao84 t727.length co84, .slice Ao86 t730.length co86] 26 (0, 0)) (blk_ BK713.out) hb); have n8_ := am_ (blk_below (g := gb714) (o := .cells #[.int .i64 t733, .string t734, .string t735, .slice Ao91 t736.length co91, .slice Ao93 t739.length co93] 26 (0, 0)) (blk_ BK714.out) hb); have n9_ := am_ (below_step (bel_ HB.out) hb); clear HO720 HO723 HO729 HO732 HO738 HO741 BK712 BK713 BK714 HB; have HO720 := n0_; have HO723 := n1_; have HO729 := n2_; have HO732 := n3_; have HO738 := n4_; have HO741 := n5_; have BK712 := n6_; have BK713 := n7_; have BK714 := n8_; have HB := n9_; clear n0_ n1_ n2_ n3_ n4_ n5_ n6_ n7_ n8_ n9_; (try clear hb); (try clear hb2); (try clear hk); (try clear hi)))
          go_ret
          exact ⟨fi_, bel_ HB.out⟩
         ·rw [if_neg c65] at H
          exact absurd H (by simp)
        ·rw [if_neg c64] at H
         exact absurd H (by simp)
       ·rw [if_neg c63] at H
        exact absurd H (by simp)
    ·rw [if_neg c15] at H
     exact absurd H (by simp)
   ·rw [if_neg c14] at H
    exact absurd H (by simp)
  ·rw [if_neg c13] at H
   exact absurd H (by simp)
 ·rw [if_neg c11] at H
  exact absurd H (by simp)

end Go.Proofs.YtompldnifiieaaaDoor.P
