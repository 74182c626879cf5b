-- written by wip/tool/hprint.py of this repo: the kit's print, with contracts by hand joined; Lean checks it.
import Derived.Test.YtompldnifiieaaaDoorPx0
import Derived.Test.YtompldnifiieaaaDoorPx1
import Derived.Test.YtompldnifiieaaaDoorPx5
import Derived.Test.YtompldnifiieaaaDoorPx7
namespace Go.Proofs.YtompldnifiieaaaDoor.P
open Go.RowKit Go.Proofs.YtompldnifiieaaaDoorW.PrintWords Go.Proofs.YtompldnifiieaaaDoorW.PrintLast Go.Proofs.YtompldnifiieaaaDoorW.PrintMore
attribute [local go_sem] max2_int min2_int max_two min_two max_three min_three max_four min_four   -- for this text's walks alone
set_option linter.unusedVariables false
set_option linter.unusedSimpArgs false

/-! ### tolllaw06_RuleRanks_g3: function 4 -/
noncomputable def tolllaw06_RuleRanks_g3.f (k : Nat) (a0_0 : Int) (a0_1 : ByteArray) (a0_2 : ByteArray) (l0_3 : List (S49)) (l0_4 : List (S49)) (a1_0 : Int) (a1_1 : ByteArray) (a1_2 : ByteArray) (l1_3 : List (S49)) (l1_4 : List (S49)) (a2_0 : Int) (a2_1 : ByteArray) (a2_2 : ByteArray) (l2_3 : List (S49)) (l2_4 : List (S49)) : Option (Bool) := (tolllaw06_Few.f k a0_0 a0_1 a0_2 l0_3 l0_4).bind fun bt827 => ((tolllaw06_Few.f k a1_0 a1_1 a1_2 l1_3 l1_4).bind fun bt836 => ((tolllaw06_Few.f k a2_0 a2_1 a2_2 l2_3 l2_4).bind fun bt845 => ((rule_Order.f bt827.1 bt827.2.1 bt827.2.2.1 bt827.2.2.2.1 bt827.2.2.2.2 bt836.1 bt836.2.1 bt836.2.2.1 bt836.2.2.2.1 bt836.2.2.2.2).bind fun t854 => ((rule_Order.f bt836.1 bt836.2.1 bt836.2.2.1 bt836.2.2.2.1 bt836.2.2.2.2 bt845.1 bt845.2.1 bt845.2.2.1 bt845.2.2.2.1 bt845.2.2.2.2).bind fun t855 => ((rule_Order.f bt827.1 bt827.2.1 bt827.2.2.1 bt827.2.2.2.1 bt827.2.2.2.2 bt845.1 bt845.2.1 bt845.2.2.1 bt845.2.2.2.1 bt845.2.2.2.2).bind fun t856 => ((rule_Order.f bt836.1 bt836.2.1 bt836.2.2.1 bt836.2.2.2.1 bt836.2.2.2.2 bt827.1 bt827.2.1 bt827.2.2.1 bt827.2.2.2.1 bt827.2.2.2.2).bind fun t857 => (if t857 = (wrap64 (-t854)) then ((rule_Order.f bt827.1 bt827.2.1 bt827.2.2.1 bt827.2.2.2.1 bt827.2.2.2.2 bt827.1 bt827.2.1 bt827.2.2.1 bt827.2.2.2.1 bt827.2.2.2.2).bind fun t858 => (if t858 = 0 then (if t854 ≤ 0 then (if t855 ≤ 0 then (none) else (if t854 < 0 then (if t854 = 0 then (none) else ((tolllaw06_awake.f).bind fun t867 => (some t867))) else (if t854 = 0 then (if t855 = 0 then (none) else ((tolllaw06_awake.f).bind fun t869 => (some t869))) else (none)))) else (none)) else (none))) else (none))))))))
theorem tolllaw06_RuleRanks_g3.mono : ∀ a0 a1 a2 a3 a4 a5 a6 a7 a8 a9 a10 a11 a12 a13 a14 k, LeO (tolllaw06_RuleRanks_g3.f k a0 a1 a2 a3 a4 a5 a6 a7 a8 a9 a10 a11 a12 a13 a14) (tolllaw06_RuleRanks_g3.f (k + 1) a0 a1 a2 a3 a4 a5 a6 a7 a8 a9 a10 a11 a12 a13 a14) := by
 intro a0 a1 a2 a3 a4 a5 a6 a7 a8 a9 a10 a11 a12 a13 a14 k
 unfold tolllaw06_RuleRanks_g3.f
 repeat' first
   | (with_reducible exact tolllaw06_Few.mono _ _ _ _ _ _)
   | (with_reducible exact LeO.refl _)
   | (with_reducible exact LeO.none _)
   | (with_reducible refine LeO.ite ?_ ?_)
   | (with_reducible refine LeO.bind ?_ (fun _ => ?_))
   | exact tolllaw06_Few.mono _ _ _ _ _ _
   | exact LeO.none _
   | refine LeO.ite ?_ ?_
   | refine LeO.bind ?_ (fun _ => ?_)
noncomputable def tolllaw06_RuleRanks_g3.T1 : Bool × List (List Nat × List Nat) := (true, [([], []), ([0], [0]), ([], []), ([2, 1], [2]), ([], []), ([4, 3], [4]), ([1, 5, 0, 1], [1]), ([3, 6, 0, 1, 2, 3, 6], [3]), ([5, 7, 0, 1, 2, 3, 4, 5, 6, 7], [5])])
noncomputable def tolllaw06_RuleRanks_g3.B1 : List Nat := [0, 1, 0, 7, 0, 31, 63, 127, 255]
theorem tolllaw06_RuleRanks_g3.tab1 : rtab .any (opsOf Tryd.f4 1) = tolllaw06_RuleRanks_g3.T1 := by kernel_rfl
theorem tolllaw06_RuleRanks_g3.bits1 : waitsOk tolllaw06_RuleRanks_g3.T1.2 tolllaw06_RuleRanks_g3.B1 = true := by kernel_rfl
noncomputable def tolllaw06_RuleRanks_g3.T2 : Bool × List (List Nat × List Nat) := (true, [([], []), ([], []), ([0, 1], [0, 1]), ([], []), ([], []), ([3, 4, 2], [3, 4]), ([], []), ([], []), ([6, 7, 5], [6, 7]), ([2, 8, 0, 1, 2], [2]), ([5, 9, 0, 1, 2, 3, 4, 5, 9], [5]), ([8, 10, 0, 1, 2, 3, 4, 5, 6, 7, 8, 9, 10], [8])])
noncomputable def tolllaw06_RuleRanks_g3.B2 : List Nat := [0, 0, 3, 0, 0, 31, 0, 0, 255, 511, 1023, 2047]
theorem tolllaw06_RuleRanks_g3.tab2 : rtab .any (opsOf Tryd.f4 2) = tolllaw06_RuleRanks_g3.T2 := by kernel_rfl
theorem tolllaw06_RuleRanks_g3.bits2 : waitsOk tolllaw06_RuleRanks_g3.T2.2 tolllaw06_RuleRanks_g3.B2 = true := by kernel_rfl
set_option maxHeartbeats 8000000 in
set_option maxRecDepth 100000 in
theorem tolllaw06_RuleRanks_g3.calls (k : Nat) (a0_0 : Int) (a0_1 : ByteArray) (a0_2 : ByteArray) (A0_3 : Option Addr) (c0_3 : Nat) (l0_3 : List (S49)) (A0_4 : Option Addr) (c0_4 : Nat) (l0_4 : List (S49)) (a1_0 : Int) (a1_1 : ByteArray) (a1_2 : ByteArray) (A1_3 : Option Addr) (c1_3 : Nat) (l1_3 : List (S49)) (A1_4 : Option Addr) (c1_4 : Nat) (l1_4 : List (S49)) (a2_0 : Int) (a2_1 : ByteArray) (a2_2 : ByteArray) (A2_3 : Option Addr) (c2_3 : Nat) (l2_3 : List (S49)) (A2_4 : Option Addr) (c2_4 : Nat) (l2_4 : List (S49)) (r : Bool) (w : World) (hr0_3 : Kd.C k49 w A0_3 l0_3.length l0_3) (hc0_3 : l0_3.length ≤ c0_3) (hr0_4 : Kd.C k49 w A0_4 l0_4.length l0_4) (hc0_4 : l0_4.length ≤ c0_4) (hr1_3 : Kd.C k49 w A1_3 l1_3.length l1_3) (hc1_3 : l1_3.length ≤ c1_3) (hr1_4 : Kd.C k49 w A1_4 l1_4.length l1_4) (hc1_4 : l1_4.length ≤ c1_4) (hr2_3 : Kd.C k49 w A2_3 l2_3.length l2_3) (hc2_3 : l2_3.length ≤ c2_3) (hr2_4 : Kd.C k49 w A2_4 l2_4.length l2_4) (hc2_4 : l2_4.length ≤ c2_4) (h : tolllaw06_RuleRanks_g3.f k a0_0 a0_1 a0_2 l0_3 l0_4 a1_0 a1_1 a1_2 l1_3 l1_4 a2_0 a2_1 a2_2 l2_3 l2_4 = some r) :
  Calls Tryd.prog 4 #[.agg #[.int .i64 a0_0, .string a0_1, .string a0_2, .slice A0_3 l0_3.length c0_3, .slice A0_4 l0_4.length c0_4], .agg #[.int .i64 a1_0, .string a1_1, .string a1_2, .slice A1_3 l1_3.length c1_3, .slice A1_4 l1_4.length c1_4], .agg #[.int .i64 a2_0, .string a2_1, .string a2_2, .slice A2_3 l2_3.length c2_3, .slice A2_4 l2_4.length c2_4]] w fun e w' => e = .returned (.bool r) ∧ Below w.heap.size w w' := by
 have hu26 := Tryd.underlying26
 have HR0_3 := Aside0.mk hr0_3
 have HC0_3 := Aside0.mk hc0_3
 clear hr0_3 hc0_3
 have HR0_4 := Aside0.mk hr0_4
 have HC0_4 := Aside0.mk hc0_4
 clear hr0_4 hc0_4
 have HR1_3 := Aside0.mk hr1_3
 have HC1_3 := Aside0.mk hc1_3
 clear hr1_3 hc1_3
 have HR1_4 := Aside0.mk hr1_4
 have HC1_4 := Aside0.mk hc1_4
 clear hr1_4 hc1_4
 have HR2_3 := Aside0.mk hr2_3
 have HC2_3 := Aside0.mk hc2_3
 clear hr2_3 hc2_3
 have HR2_4 := Aside0.mk hr2_4
 have HC2_4 := Aside0.mk hc2_4
 clear hr2_4 hc2_4
 have HB := am_ (Below.refl w.heap.size w)
 have H : ((tolllaw06_Few.f k a0_0 a0_1 a0_2 l0_3 l0_4).bind fun bt827 => ((tolllaw06_Few.f k a1_0 a1_1 a1_2 l1_3 l1_4).bind fun bt836 => ((tolllaw06_Few.f k a2_0 a2_1 a2_2 l2_3 l2_4).bind fun bt845 => ((rule_Order.f bt827.1 bt827.2.1 bt827.2.2.1 bt827.2.2.2.1 bt827.2.2.2.2 bt836.1 bt836.2.1 bt836.2.2.1 bt836.2.2.2.1 bt836.2.2.2.2).bind fun t854 => ((rule_Order.f bt836.1 bt836.2.1 bt836.2.2.1 bt836.2.2.2.1 bt836.2.2.2.2 bt845.1 bt845.2.1 bt845.2.2.1 bt845.2.2.2.1 bt845.2.2.2.2).bind fun t855 => ((rule_Order.f bt827.1 bt827.2.1 bt827.2.2.1 bt827.2.2.2.1 bt827.2.2.2.2 bt845.1 bt845.2.1 bt845.2.2.1 bt845.2.2.2.1 bt845.2.2.2.2).bind fun t856 => ((rule_Order.f bt836.1 bt836.2.1 bt836.2.2.1 bt836.2.2.2.1 bt836.2.2.2.2 bt827.1 bt827.2.1 bt827.2.2.1 bt827.2.2.2.1 bt827.2.2.2.2).bind fun t857 => (if t857 = (wrap64 (-t854)) then ((rule_Order.f bt827.1 bt827.2.1 bt827.2.2.1 bt827.2.2.2.1 bt827.2.2.2.2 bt827.1 bt827.2.1 bt827.2.2.1 bt827.2.2.2.1 bt827.2.2.2.2).bind fun t858 => (if t858 = 0 then (if t854 ≤ 0 then (if t855 ≤ 0 then (none) else (if t854 < 0 then (if t854 = 0 then (none) else ((tolllaw06_awake.f).bind fun t867 => (some t867))) else (if t854 = 0 then (if t855 = 0 then (none) else ((tolllaw06_awake.f).bind fun t869 => (some t869))) else (none)))) else (none)) else (none))) else (none))))))))) = some r := h
 clear h
 replace H := Option.bind_eq_some_iff.mp H
 obtain ⟨⟨t827, t828, t829, t830, t833⟩, A40, H⟩ := H
 replace H : ((tolllaw06_Few.f k a1_0 a1_1 a1_2 l1_3 l1_4).bind fun bt836 => ((tolllaw06_Few.f k a2_0 a2_1 a2_2 l2_3 l2_4).bind fun bt845 => ((rule_Order.f t827 t828 t829 t830 t833 bt836.1 bt836.2.1 bt836.2.2.1 bt836.2.2.2.1 bt836.2.2.2.2).bind fun t854 => ((rule_Order.f bt836.1 bt836.2.1 bt836.2.2.1 bt836.2.2.2.1 bt836.2.2.2.2 bt845.1 bt845.2.1 bt845.2.2.1 bt845.2.2.2.1 bt845.2.2.2.2).bind fun t855 => ((rule_Order.f t827 t828 t829 t830 t833 bt845.1 bt845.2.1 bt845.2.2.1 bt845.2.2.2.1 bt845.2.2.2.2).bind fun t856 => ((rule_Order.f bt836.1 bt836.2.1 bt836.2.2.1 bt836.2.2.2.1 bt836.2.2.2.2 t827 t828 t829 t830 t833).bind fun t857 => (if t857 = (wrap64 (-t854)) then ((rule_Order.f t827 t828 t829 t830 t833 t827 t828 t829 t830 t833).bind fun t858 => (if t858 = 0 then (if t854 ≤ 0 then (if t855 ≤ 0 then (none) else (if t854 < 0 then (if t854 = 0 then (none) else ((tolllaw06_awake.f).bind fun t867 => (some t867))) else (if t854 = 0 then (if t855 = 0 then (none) else ((tolllaw06_awake.f).bind fun t869 => (some t869))) else (none)))) else (none)) else (none))) else (none)))))))) = some r := H
 have A4 := Aside0.mk A40
 clear A40
 replace H := Option.bind_eq_some_iff.mp H
 obtain ⟨⟨t836, t837, t838, t839, t842⟩, A50, H⟩ := H
 replace H : ((tolllaw06_Few.f k a2_0 a2_1 a2_2 l2_3 l2_4).bind fun bt845 => ((rule_Order.f t827 t828 t829 t830 t833 t836 t837 t838 t839 t842).bind fun t854 => ((rule_Order.f t836 t837 t838 t839 t842 bt845.1 bt845.2.1 bt845.2.2.1 bt845.2.2.2.1 bt845.2.2.2.2).bind fun t855 => ((rule_Order.f t827 t828 t829 t830 t833 bt845.1 bt845.2.1 bt845.2.2.1 bt845.2.2.2.1 bt845.2.2.2.2).bind fun t856 => ((rule_Order.f t836 t837 t838 t839 t842 t827 t828 t829 t830 t833).bind fun t857 => (if t857 = (wrap64 (-t854)) then ((rule_Order.f t827 t828 t829 t830 t833 t827 t828 t829 t830 t833).bind fun t858 => (if t858 = 0 then (if t854 ≤ 0 then (if t855 ≤ 0 then (none) else (if t854 < 0 then (if t854 = 0 then (none) else ((tolllaw06_awake.f).bind fun t867 => (some t867))) else (if t854 = 0 then (if t855 = 0 then (none) else ((tolllaw06_awake.f).bind fun t869 => (some t869))) else (none)))) else (none)) else (none))) else (none))))))) = some r := H
 have A5 := Aside0.mk A50
 clear A50
 replace H := Option.bind_eq_some_iff.mp H
 obtain ⟨⟨t845, t846, t847, t848, t851⟩, A60, H⟩ := H
 replace H : ((rule_Order.f t827 t828 t829 t830 t833 t836 t837 t838 t839 t842).bind fun t854 => ((rule_Order.f t836 t837 t838 t839 t842 t845 t846 t847 t848 t851).bind fun t855 => ((rule_Order.f t827 t828 t829 t830 t833 t845 t846 t847 t848 t851).bind fun t856 => ((rule_Order.f t836 t837 t838 t839 t842 t827 t828 t829 t830 t833).bind fun t857 => (if t857 = (wrap64 (-t854)) then ((rule_Order.f t827 t828 t829 t830 t833 t827 t828 t829 t830 t833).bind fun t858 => (if t858 = 0 then (if t854 ≤ 0 then (if t855 ≤ 0 then (none) else (if t854 < 0 then (if t854 = 0 then (none) else ((tolllaw06_awake.f).bind fun t867 => (some t867))) else (if t854 = 0 then (if t855 = 0 then (none) else ((tolllaw06_awake.f).bind fun t869 => (some t869))) else (none)))) else (none)) else (none))) else (none)))))) = some r := H
 have A6 := Aside0.mk A60
 clear A60
 replace H := Option.bind_eq_some_iff.mp H
 obtain ⟨t854, A70, H⟩ := H
 replace H : ((rule_Order.f t836 t837 t838 t839 t842 t845 t846 t847 t848 t851).bind fun t855 => ((rule_Order.f t827 t828 t829 t830 t833 t845 t846 t847 t848 t851).bind fun t856 => ((rule_Order.f t836 t837 t838 t839 t842 t827 t828 t829 t830 t833).bind fun t857 => (if t857 = (wrap64 (-t854)) then ((rule_Order.f t827 t828 t829 t830 t833 t827 t828 t829 t830 t833).bind fun t858 => (if t858 = 0 then (if t854 ≤ 0 then (if t855 ≤ 0 then (none) else (if t854 < 0 then (if t854 = 0 then (none) else ((tolllaw06_awake.f).bind fun t867 => (some t867))) else (if t854 = 0 then (if t855 = 0 then (none) else ((tolllaw06_awake.f).bind fun t869 => (some t869))) else (none)))) else (none)) else (none))) else (none))))) = some r := H
 have A7 := Aside0.mk A70
 clear A70
 replace H := Option.bind_eq_some_iff.mp H
 obtain ⟨t855, A80, H⟩ := H
 replace H : ((rule_Order.f t827 t828 t829 t830 t833 t845 t846 t847 t848 t851).bind fun t856 => ((rule_Order.f t836 t837 t838 t839 t842 t827 t828 t829 t830 t833).bind fun t857 => (if t857 = (wrap64 (-t854)) then ((rule_Order.f t827 t828 t829 t830 t833 t827 t828 t829 t830 t833).bind fun t858 => (if t858 = 0 then (if t854 ≤ 0 then (if t855 ≤ 0 then (none) else (if t854 < 0 then (if t854 = 0 then (none) else ((tolllaw06_awake.f).bind fun t867 => (some t867))) else (if t854 = 0 then (if t855 = 0 then (none) else ((tolllaw06_awake.f).bind fun t869 => (some t869))) else (none)))) else (none)) else (none))) else (none)))) = some r := H
 have A8 := Aside0.mk A80
 clear A80
 replace H := Option.bind_eq_some_iff.mp H
 obtain ⟨t856, A90, H⟩ := H
 replace H : ((rule_Order.f t836 t837 t838 t839 t842 t827 t828 t829 t830 t833).bind fun t857 => (if t857 = (wrap64 (-t854)) then ((rule_Order.f t827 t828 t829 t830 t833 t827 t828 t829 t830 t833).bind fun t858 => (if t858 = 0 then (if t854 ≤ 0 then (if t855 ≤ 0 then (none) else (if t854 < 0 then (if t854 = 0 then (none) else ((tolllaw06_awake.f).bind fun t867 => (some t867))) else (if t854 = 0 then (if t855 = 0 then (none) else ((tolllaw06_awake.f).bind fun t869 => (some t869))) else (none)))) else (none)) else (none))) else (none))) = some r := H
 have A9 := Aside0.mk A90
 clear A90
 replace H := Option.bind_eq_some_iff.mp H
 obtain ⟨t857, A100, H⟩ := H
 replace H : (if t857 = (wrap64 (-t854)) then ((rule_Order.f t827 t828 t829 t830 t833 t827 t828 t829 t830 t833).bind fun t858 => (if t858 = 0 then (if t854 ≤ 0 then (if t855 ≤ 0 then (none) else (if t854 < 0 then (if t854 = 0 then (none) else ((tolllaw06_awake.f).bind fun t867 => (some t867))) else (if t854 = 0 then (if t855 = 0 then (none) else ((tolllaw06_awake.f).bind fun t869 => (some t869))) else (none)))) else (none)) else (none))) else (none)) = some r := H
 have A10 := Aside0.mk A100
 clear A100
 by_cases c11 : t857 = (wrap64 (-t854))
 ·rw [if_pos c11] at H
  have c11b0 : (t857 == (wrap64 (-t854))) = true := beq_iff_eq.mpr c11
  have c11b1 : (t857 != (wrap64 (-t854))) = false := bne_eq_false_iff_eq.mpr c11
  clear c11
  replace H := Option.bind_eq_some_iff.mp H
  obtain ⟨t858, A120, H⟩ := H
  replace H : (if t858 = 0 then (if t854 ≤ 0 then (if t855 ≤ 0 then (none) else (if t854 < 0 then (if t854 = 0 then (none) else ((tolllaw06_awake.f).bind fun t867 => (some t867))) else (if t854 = 0 then (if t855 = 0 then (none) else ((tolllaw06_awake.f).bind fun t869 => (some t869))) else (none)))) else (none)) else (none)) = some r := H
  have A12 := Aside0.mk A120
  clear A120
  by_cases c13 : t858 = 0
  ·rw [if_pos c13] at H
   have c13b0 : (t858 == 0) = true := beq_iff_eq.mpr c13
   have c13b1 : (t858 != 0) = false := bne_eq_false_iff_eq.mpr c13
   clear c13
   by_cases c14 : t854 ≤ 0
   ·rw [if_pos c14] at H
    have c14b0 : decide (t854 ≤ 0) = true := decide_eq_true c14
    clear c14
    by_cases c15 : t855 ≤ 0
    ·rw [if_pos c15] at H
     exact absurd H (by simp)
    ·rw [if_neg c15] at H
     have c15b0 : decide (t855 ≤ 0) = false := decide_eq_false c15
     clear c15
     by_cases c16 : t854 < 0
     ·rw [if_pos c16] at H
      have c16b0 : decide (t854 < 0) = true := decide_eq_true c16
      clear c16
      by_cases c17 : t854 = 0
      ·rw [if_pos c17] at H
       exact absurd H (by simp)
      ·rw [if_neg c17] at H
       have c17b0 : (t854 == 0) = false := beq_eq_false_iff_ne.mpr c17
       have c17b1 : (t854 != 0) = true := bne_iff_ne.mpr c17
       replace H := Option.bind_eq_some_iff.mp H
       obtain ⟨t867, A180, H⟩ := H
       replace H : (some t867) = some r := H
       have A18 := Aside0.mk A180
       clear A180
       obtain rfl := Option.some.inj H
       go_enter Tryd.func4, Tryd.ntmps4
       try go_wp2_with (first | ((with_reducible refine gate_dst (N := 3) rfl ?_); refine box_event ?hg (N := 3) ?hd (cs := #[.int .i64 a0_0, .string a0_1, .string a0_2, .slice A0_3 l0_3.length c0_3, .slice A0_4 l0_4.length c0_4]) (t := 26) ?hr ?_; (case hd => rfl); (case hg => rfl); (case hr => first | (go_simp; done) | (go_simp; rfl)); intro gb824 hg w19 hbox hb; have n0_ := am_ (below_step (bel_ HB.out) hb); have n1_ := am_ (hbox); have n2_ := am_ ((by rw [hg]; exact (below_size (bel_ HB.out)) : w.heap.size ≤ gb824)); have n3_ := am_ ((by rw [hg]; exact (below_size (bel_ HB.out)) : w.heap.size ≤ gb824)); clear HB; have HB := n0_; have BK824 := n1_; have GW824 := n2_; have GE824 := n3_; clear n0_ n1_ n2_ n3_ hb hbox hg) | ((with_reducible refine gate_dst (N := 4) rfl ?_); refine box_event ?hg (N := 4) ?hd (cs := #[.int .i64 a1_0, .string a1_1, .string a1_2, .slice A1_3 l1_3.length c1_3, .slice A1_4 l1_4.length c1_4]) (t := 26) ?hr ?_; (case hd => rfl); (case hg => rfl); (case hr => first | (go_simp; done) | (go_simp; rfl)); intro gb825 hg w20 hbox hb; have n0_ := am_ (blk_below (g := gb824) (o := .cells #[.int .i64 a0_0, .string a0_1, .string a0_2, .slice A0_3 l0_3.length c0_3, .slice A0_4 l0_4.length c0_4] 26 (0, 0)) (blk_ BK824.out) hb); have n1_ := am_ (below_step (bel_ HB.out) hb); have n2_ := am_ (hbox); have n3_ := am_ ((by rw [hg]; exact (below_size (bel_ HB.out)) : w.heap.size ≤ gb825)); have n4_ := am_ ((by rw [hg]; exact (below_size (bel_ HB.out)) : w.heap.size ≤ gb825)); have n5_ := am_ ((by rw [hg]; exact Nat.ne_of_lt (blk_lt (g := gb824) (o := .cells #[.int .i64 a0_0, .string a0_1, .string a0_2, .slice A0_3 l0_3.length c0_3, .slice A0_4 l0_4.length c0_4] 26 (0, 0)) (blk_ BK824.out)) : gb824 ≠ gb825)); have n6_ := am_ ((by rw [hg]; exact Nat.ne_of_gt (blk_lt (g := gb824) (o := .cells #[.int .i64 a0_0, .string a0_1, .string a0_2, .slice A0_3 l0_3.length c0_3, .slice A0_4 l0_4.length c0_4] 26 (0, 0)) (blk_ BK824.out)) : gb825 ≠ gb824)); clear BK824 HB; have BK824 := n0_; have HB := n1_; have BK825 := n2_; have GW825 := n3_; have GE825 := n4_; have NB824_825 := n5_; have NB825_824 := n6_; clear n0_ n1_ n2_ n3_ n4_ n5_ n6_ hb hbox hg) | ((with_reducible refine gate_dst (N := 5) rfl ?_); refine box_event ?hg (N := 5) ?hd (cs := #[.int .i64 a2_0, .string a2_1, .string a2_2, .slice A2_3 l2_3.length c2_3, .slice A2_4 l2_4.length c2_4]) (t := 26) ?hr ?_; (case hd => rfl); (case hg => rfl); (case hr => first | (go_simp; done) | (go_simp; rfl)); intro gb826 hg w21 hbox hb; have n0_ := am_ (blk_below (g := gb824) (o := .cells #[.int .i64 a0_0, .string a0_1, .string a0_2, .slice A0_3 l0_3.length c0_3, .slice A0_4 l0_4.length c0_4] 26 (0, 0)) (blk_ BK824.out) hb); have n1_ := am_ (blk_below (g := gb825) (o := .cells #[.int .i64 a1_0, .string a1_1, .string a1_2, .slice A1_3 l1_3.length c1_3, .slice A1_4 l1_4.length c1_4] 26 (0, 0)) (blk_ BK825.out) hb); have n2_ := am_ (below_step (bel_ HB.out) hb); have n3_ := am_ (hbox); have n4_ := am_ ((by rw [hg]; exact (below_size (bel_ HB.out)) : w.heap.size ≤ gb826)); have n5_ := am_ ((by rw [hg]; exact (below_size (bel_ HB.out)) : w.heap.size ≤ gb826)); have n6_ := am_ ((by rw [hg]; exact Nat.ne_of_lt (blk_lt (g := gb824) (o := .cells #[.int .i64 a0_0, .string a0_1, .string a0_2, .slice A0_3 l0_3.length c0_3, .slice A0_4 l0_4.length c0_4] 26 (0, 0)) (blk_ BK824.out)) : gb824 ≠ gb826)); have n7_ := am_ ((by rw [hg]; exact Nat.ne_of_gt (blk_lt (g := gb824) (o := .cells #[.int .i64 a0_0, .string a0_1, .string a0_2, .slice A0_3 l0_3.length c0_3, .slice A0_4 l0_4.length c0_4] 26 (0, 0)) (blk_ BK824.out)) : gb826 ≠ gb824)); have n8_ := am_ ((by rw [hg]; exact Nat.ne_of_lt (blk_lt (g := gb825) (o := .cells #[.int .i64 a1_0, .string a1_1, .string a1_2, .slice A1_3 l1_3.length c1_3, .slice A1_4 l1_4.length c1_4] 26 (0, 0)) (blk_ BK825.out)) : gb825 ≠ gb826)); have n9_ := am_ ((by rw [hg]; exact Nat.ne_of_gt (blk_lt (g := gb825) (o := .cells #[.int .i64 a1_0, .string a1_1, .string a1_2, .slice A1_3 l1_3.length c1_3, .slice A1_4 l1_4.length c1_4] 26 (0, 0)) (blk_ BK825.out)) : gb826 ≠ gb825)); clear BK824 BK825 HB; have BK824 := n0_; have BK825 := n1_; have HB := n2_; have BK826 := n3_; have GW826 := n4_; have GE826 := n5_; have NB824_826 := n6_; have NB826_824 := n7_; have NB825_826 := n8_; have NB826_825 := n9_; clear n0_ n1_ n2_ n3_ n4_ n5_ n6_ n7_ n8_ n9_ hb hbox hg))
       have n0_ := am_ (blk_drew BK824.out)
       have n1_ := am_ (blk_drew BK825.out)
       have n2_ := am_ (blk_drew BK826.out)
       have n3_ := am_ (below_drew1 HB.out)
       clear BK824 BK825 BK826 HB
       have BK824 := n0_
       have BK825 := n1_
       have BK826 := n2_
       have HB := n3_
       clear n0_ n1_ n2_ n3_
       refine start_ (n := 9) (S := fun w' => w'.cell? ⟨gb824, 0, none⟩ = some (.int .i64 a0_0) ∧ w'.cell? ⟨gb824, 1, none⟩ = some (.string a0_1) ∧ w'.cell? ⟨gb824, 2, none⟩ = some (.string a0_2) ∧ w'.cell? ⟨gb824, 3, none⟩ = some (.slice A0_3 l0_3.length c0_3) ∧ w'.cell? ⟨gb824, 4, none⟩ = some (.slice A0_4 l0_4.length c0_4) ∧ w'.cell? ⟨gb825, 0, none⟩ = some (.int .i64 a1_0) ∧ w'.cell? ⟨gb825, 1, none⟩ = some (.string a1_1) ∧ w'.cell? ⟨gb825, 2, none⟩ = some (.string a1_2) ∧ w'.cell? ⟨gb825, 3, none⟩ = some (.slice A1_3 l1_3.length c1_3) ∧ w'.cell? ⟨gb825, 4, none⟩ = some (.slice A1_4 l1_4.length c1_4) ∧ w'.cell? ⟨gb826, 0, none⟩ = some (.int .i64 a2_0) ∧ w'.cell? ⟨gb826, 1, none⟩ = some (.string a2_1) ∧ w'.cell? ⟨gb826, 2, none⟩ = some (.string a2_2) ∧ w'.cell? ⟨gb826, 3, none⟩ = some (.slice A2_3 l2_3.length c2_3) ∧ w'.cell? ⟨gb826, 4, none⟩ = some (.slice A2_4 l2_4.length c2_4)) (ds := [6, 7, 8]) #[false, false, false, false, false, false, false, false, false] kr_ rfl rfl ⟨(blk_cell BK824.out 0).trans rfl, (blk_cell BK824.out 1).trans rfl, (blk_cell BK824.out 2).trans rfl, (blk_cell BK824.out 3).trans rfl, (blk_cell BK824.out 4).trans rfl, (blk_cell BK825.out 0).trans rfl, (blk_cell BK825.out 1).trans rfl, (blk_cell BK825.out 2).trans rfl, (blk_cell BK825.out 3).trans rfl, (blk_cell BK825.out 4).trans rfl, (blk_cell BK826.out 0).trans rfl, (blk_cell BK826.out 1).trans rfl, (blk_cell BK826.out 2).trans rfl, (blk_cell BK826.out 3).trans rfl, (blk_cell BK826.out 4).trans rfl⟩ (fun hHeld => ?_); refine with_tabW tolllaw06_RuleRanks_g3.tab1 tolllaw06_RuleRanks_g3.bits1 (fun HT_ HW_ => ?_)
       generalize w21.drew = w22 at BK824 BK825 BK826 HB hHeld ⊢
       refine take_ (i := 0) (N := some 10) (v := ?_) (a' := ?_) #[true, false, false, false, false, false, false, false, false] rfl rfl (take_ofW HT_.out HW_.out kr_) (fun _ _ _ h => h) (Or.inl ⟨by rfl, ?_⟩) hHeld ?_ ?_
       rotate_left
       ·rintro w' ⟨s0, s1, s2, s3, s4, s5, s6, s7, s8, s9, s10, s11, s12, s13, s14⟩
        go_simp
        with_reducible rfl
       rotate_left
       ·simp only [Act.put, sx_, s0_, s1_, i64_w, i32_w]
        rfl
       refine take_ (i := 2) (N := some 12) (v := ?_) (a' := ?_) #[true, false, true, false, false, false, false, false, false] rfl rfl (take_ofW HT_.out HW_.out kr_) (fun _ _ _ h => h) (Or.inl ⟨by rfl, ?_⟩) hHeld ?_ ?_
       rotate_left
       ·rintro w' ⟨s0, s1, s2, s3, s4, s5, s6, s7, s8, s9, s10, s11, s12, s13, s14⟩
        go_simp
        with_reducible rfl
       rotate_left
       ·simp only [Act.put, sx_, s0_, s1_, i64_w, i32_w]
        rfl
       refine take_ (i := 4) (N := some 14) (v := ?_) (a' := ?_) #[true, false, true, false, true, false, false, false, false] rfl rfl (take_ofW HT_.out HW_.out kr_) (fun _ _ _ h => h) (Or.inl ⟨by rfl, ?_⟩) hHeld ?_ ?_
       rotate_left
       ·rintro w' ⟨s0, s1, s2, s3, s4, s5, s6, s7, s8, s9, s10, s11, s12, s13, s14⟩
        go_simp
        with_reducible rfl
       rotate_left
       ·simp only [Act.put, sx_, s0_, s1_, i64_w, i32_w]
        rfl
       refine one_ (i := 1) (N := some 11) #[true, true, true, false, true, false, false, false, false] rfl rfl (one_of HT_.out kr_) (by decide) (fun K hK => ?_)
       refine goes_ Tryd.func9 kr_ rfl #[.agg #[.int .i64 a0_0, .string a0_1, .string a0_2, .slice A0_3 l0_3.length c0_3, .slice A0_4 l0_4.length c0_4]] (by rfl) rfl rfl rl_ ?_
       with_reducible refine (tolllaw06_Few.calls k a0_0 a0_1 a0_2 _ _ l0_3 _ _ l0_4 t827 t828 t829 t830 t833 _ ?side1 ?side2 ?side3 ?side4 A4.out).mono ?_
       (case side1 => exact C_ (Kd.C_below HR0_3.out HB.out))
       (case side2 => exact HC0_3.out)
       (case side3 => exact C_ (Kd.C_below HR0_4.out HB.out))
       (case side4 => exact HC0_4.out)
       rintro e w23 ⟨v831, v834, rfl, ho0, ho1, hb⟩
       refine ⟨_, rfl, ?_⟩
       have n0_ := am_ (Kd.R_lower ho0 (below_size (bel_ HB.out)))
       have n1_ := am_ (Kd.R_lower ho1 (below_size (bel_ HB.out)))
       have n2_ := am_ (blk_below (g := gb824) (o := .cells #[.int .i64 a0_0, .string a0_1, .string a0_2, .slice A0_3 l0_3.length c0_3, .slice A0_4 l0_4.length c0_4] 26 (0, 0)) (blk_ BK824.out) hb)
       have n3_ := am_ (blk_below (g := gb825) (o := .cells #[.int .i64 a1_0, .string a1_1, .string a1_2, .slice A1_3 l1_3.length c1_3, .slice A1_4 l1_4.length c1_4] 26 (0, 0)) (blk_ BK825.out) hb)
       have n4_ := am_ (blk_below (g := gb826) (o := .cells #[.int .i64 a2_0, .string a2_1, .string a2_2, .slice A2_3 l2_3.length c2_3, .slice A2_4 l2_4.length c2_4] 26 (0, 0)) (blk_ BK826.out) hb)
       have n5_ := am_ (below_step (bel_ HB.out) hb)
       clear BK824 BK825 BK826 HB
       have HO832 := n0_
       have HO835 := n1_
       have BK824 := n2_
       have BK825 := n3_
       have BK826 := n4_
       have HB := n5_
       clear n0_ n1_ n2_ n3_ n4_ n5_
       (try clear hb)
       (try clear hb2)
       (try clear hk)
       (try clear hi)
       (try clear ho0)
       (try clear ho1)
       refine hK.out _ _ ⟨(blk_cell BK824.out 0).trans rfl, (blk_cell BK824.out 1).trans rfl, (blk_cell BK824.out 2).trans rfl, (blk_cell BK824.out 3).trans rfl, (blk_cell BK824.out 4).trans rfl, (blk_cell BK825.out 0).trans rfl, (blk_cell BK825.out 1).trans rfl, (blk_cell BK825.out 2).trans rfl, (blk_cell BK825.out 3).trans rfl, (blk_cell BK825.out 4).trans rfl, (blk_cell BK826.out 0).trans rfl, (blk_cell BK826.out 1).trans rfl, (blk_cell BK826.out 2).trans rfl, (blk_cell BK826.out 3).trans rfl, (blk_cell BK826.out 4).trans rfl⟩ (fun hHeld => ?_)
       clear hK K
       refine norm_ (a' := ?_) ?_ ?_
       rotate_left
       ·show Act.put _ (some 11) _ = _
        simp only [Act.put, sx_, s0_, s1_, i64_w, i32_w]
        rfl
       refine one_ (i := 3) (N := some 13) #[true, true, true, true, true, false, false, false, false] rfl rfl (one_of HT_.out kr_) (by decide) (fun K hK => ?_)
       refine goes_ Tryd.func9 kr_ rfl #[.agg #[.int .i64 a1_0, .string a1_1, .string a1_2, .slice A1_3 l1_3.length c1_3, .slice A1_4 l1_4.length c1_4]] (by rfl) rfl rfl rl_ ?_
       with_reducible refine (tolllaw06_Few.calls k a1_0 a1_1 a1_2 _ _ l1_3 _ _ l1_4 t836 t837 t838 t839 t842 _ ?side1 ?side2 ?side3 ?side4 A5.out).mono ?_
       (case side1 => exact C_ (Kd.C_below HR1_3.out HB.out))
       (case side2 => exact HC1_3.out)
       (case side3 => exact C_ (Kd.C_below HR1_4.out HB.out))
       (case side4 => exact HC1_4.out)
       rintro e w24 ⟨v840, v843, rfl, ho0, ho1, hb⟩
       refine ⟨_, rfl, ?_⟩
       have n0_ := am_ (Kd.R_mono (Kd.R_told (Kd.R_told (Kd.R_old (R_ HO832.out) hb) (Kd.R_base ho0)) (Kd.R_base ho1)) (fun _ h_ => h_.1))
       have n1_ := am_ (Kd.R_mono (Kd.R_told (Kd.R_told (Kd.R_old (R_ HO835.out) hb) (Kd.R_base ho0)) (Kd.R_base ho1)) (fun _ h_ => h_.1))
       have n2_ := am_ (Kd.R_lower (Kd.R_new' (Kd.R_new' ho0 (Kd.R_lt (R_ HO832.out))) (Kd.R_lt (R_ HO835.out))) (below_size (bel_ HB.out)))
       have n3_ := am_ (Kd.R_lower (Kd.R_new' (Kd.R_new' ho1 (Kd.R_lt (R_ HO832.out))) (Kd.R_lt (R_ HO835.out))) (below_size (bel_ HB.out)))
       have n4_ := am_ (blk_below (g := gb824) (o := .cells #[.int .i64 a0_0, .string a0_1, .string a0_2, .slice A0_3 l0_3.length c0_3, .slice A0_4 l0_4.length c0_4] 26 (0, 0)) (blk_ BK824.out) hb)
       have n5_ := am_ (blk_below (g := gb825) (o := .cells #[.int .i64 a1_0, .string a1_1, .string a1_2, .slice A1_3 l1_3.length c1_3, .slice A1_4 l1_4.length c1_4] 26 (0, 0)) (blk_ BK825.out) hb)
       have n6_ := am_ (blk_below (g := gb826) (o := .cells #[.int .i64 a2_0, .string a2_1, .string a2_2, .slice A2_3 l2_3.length c2_3, .slice A2_4 l2_4.length c2_4] 26 (0, 0)) (blk_ BK826.out) hb)
       have n7_ := am_ (below_step (bel_ HB.out) hb)
       clear HO832 HO835 BK824 BK825 BK826 HB
       have HO832 := n0_
       have HO835 := n1_
       have HO841 := n2_
       have HO844 := n3_
       have BK824 := n4_
       have BK825 := n5_
       have BK826 := n6_
       have HB := n7_
       clear n0_ n1_ n2_ n3_ n4_ n5_ n6_ n7_
       (try clear hb)
       (try clear hb2)
       (try clear hk)
       (try clear hi)
       (try clear ho0)
       (try clear ho1)
       refine hK.out _ _ ⟨(blk_cell BK824.out 0).trans rfl, (blk_cell BK824.out 1).trans rfl, (blk_cell BK824.out 2).trans rfl, (blk_cell BK824.out 3).trans rfl, (blk_cell BK824.out 4).trans rfl, (blk_cell BK825.out 0).trans rfl, (blk_cell BK825.out 1).trans rfl, (blk_cell BK825.out 2).trans rfl, (blk_cell BK825.out 3).trans rfl, (blk_cell BK825.out 4).trans rfl, (blk_cell BK826.out 0).trans rfl, (blk_cell BK826.out 1).trans rfl, (blk_cell BK826.out 2).trans rfl, (blk_cell BK826.out 3).trans rfl, (blk_cell BK826.out 4).trans rfl⟩ (fun hHeld => ?_)
       clear hK K
       refine norm_ (a' := ?_) ?_ ?_
       rotate_left
       ·show Act.put _ (some 13) _ = _
        simp only [Act.put, sx_, s0_, s1_, i64_w, i32_w]
        rfl
       refine one_ (i := 5) (N := some 15) #[true, true, true, true, true, true, false, false, false] rfl rfl (one_of HT_.out kr_) (by decide) (fun K hK => ?_)
       refine goes_ Tryd.func9 kr_ rfl #[.agg #[.int .i64 a2_0, .string a2_1, .string a2_2, .slice A2_3 l2_3.length c2_3, .slice A2_4 l2_4.length c2_4]] (by rfl) rfl rfl rl_ ?_
       with_reducible refine (tolllaw06_Few.calls k a2_0 a2_1 a2_2 _ _ l2_3 _ _ l2_4 t845 t846 t847 t848 t851 _ ?side1 ?side2 ?side3 ?side4 A6.out).mono ?_
       (case side1 => exact C_ (Kd.C_below HR2_3.out HB.out))
       (case side2 => exact HC2_3.out)
       (case side3 => exact C_ (Kd.C_below HR2_4.out HB.out))
       (case side4 => exact HC2_4.out)
       rintro e w25 ⟨v849, v852, rfl, ho0, ho1, hb⟩
       refine ⟨_, rfl, ?_⟩
       have n0_ := am_ (Kd.R_mono (Kd.R_told (Kd.R_told (Kd.R_old (R_ HO832.out) hb) (Kd.R_base ho0)) (Kd.R_base ho1)) (fun _ h_ => h_.1))
       have n1_ := am_ (Kd.R_mono (Kd.R_told (Kd.R_told (Kd.R_old (R_ HO835.out) hb) (Kd.R_base ho0)) (Kd.R_base ho1)) (fun _ h_ => h_.1))
       have n2_ := am_ (Kd.R_mono (Kd.R_told (Kd.R_told (Kd.R_old (R_ HO841.out) hb) (Kd.R_base ho0)) (Kd.R_base ho1)) (fun _ h_ => h_.1))
       have n3_ := am_ (Kd.R_mono (Kd.R_told (Kd.R_told (Kd.R_old (R_ HO844.out) hb) (Kd.R_base ho0)) (Kd.R_base ho1)) (fun _ h_ => h_.1))
       have n4_ := am_ (Kd.R_lower (Kd.R_new' (Kd.R_new' (Kd.R_new' (Kd.R_new' ho0 (Kd.R_lt (R_ HO832.out))) (Kd.R_lt (R_ HO835.out))) (Kd.R_lt (R_ HO841.out))) (Kd.R_lt (R_ HO844.out))) (below_size (bel_ HB.out)))
       have n5_ := am_ (Kd.R_lower (Kd.R_new' (Kd.R_new' (Kd.R_new' (Kd.R_new' ho1 (Kd.R_lt (R_ HO832.out))) (Kd.R_lt (R_ HO835.out))) (Kd.R_lt (R_ HO841.out))) (Kd.R_lt (R_ HO844.out))) (below_size (bel_ HB.out)))
       have n6_ := am_ (blk_below (g := gb824) (o := .cells #[.int .i64 a0_0, .string a0_1, .string a0_2, .slice A0_3 l0_3.length c0_3, .slice A0_4 l0_4.length c0_4] 26 (0, 0)) (blk_ BK824.out) hb)
       have n7_ := am_ (blk_below (g := gb825) (o := .cells #[.int .i64 a1_0, .string a1_1, .string a1_2, .slice A1_3 l1_3.length c1_3, .slice A1_4 l1_4.length c1_4] 26 (0, 0)) (blk_ BK825.out) hb)
       have n8_ := am_ (blk_below (g := gb826) (o := .cells #[.int .i64 a2_0, .string a2_1, .string a2_2, .slice A2_3 l2_3.length c2_3, .slice A2_4 l2_4.length c2_4] 26 (0, 0)) (blk_ BK826.out) hb)
       have n9_ := am_ (below_step (bel_ HB.out) hb)
       clear HO832 HO835 HO841 HO844 BK824 BK825 BK826 HB
       have HO832 := n0_
       have HO835 := n1_
       have HO841 := n2_
       have HO844 := n3_
       have HO850 := n4_
       have HO853 := n5_
       have BK824 := n6_
       have BK825 := n7_
       have BK826 := n8_
       have HB := n9_
       clear n0_ n1_ n2_ n3_ n4_ n5_ n6_ n7_ n8_ n9_
       (try clear hb)
       (try clear hb2)
       (try clear hk)
       (try clear hi)
       (try clear ho0)
       (try clear ho1)
       obtain ⟨Ao29, co29, eo29⟩ := Kd.R_slice HO832.out
       (first | subst eo29 | (injection eo29 with f1_ f2_ f3_; have f4_ := f1_.symm; have f5_ := f3_.symm; clear f1_ f2_ f3_; subst f4_; subst f5_))
       obtain ⟨Ao31, co31, eo31⟩ := Kd.R_slice HO835.out
       (first | subst eo31 | (injection eo31 with f1_ f2_ f3_; have f4_ := f1_.symm; have f5_ := f3_.symm; clear f1_ f2_ f3_; subst f4_; subst f5_))
       obtain ⟨Ao36, co36, eo36⟩ := Kd.R_slice HO841.out
       (first | subst eo36 | (injection eo36 with f1_ f2_ f3_; have f4_ := f1_.symm; have f5_ := f3_.symm; clear f1_ f2_ f3_; subst f4_; subst f5_))
       obtain ⟨Ao38, co38, eo38⟩ := Kd.R_slice HO844.out
       (first | subst eo38 | (injection eo38 with f1_ f2_ f3_; have f4_ := f1_.symm; have f5_ := f3_.symm; clear f1_ f2_ f3_; subst f4_; subst f5_))
       obtain ⟨Ao43, co43, eo43⟩ := Kd.R_slice HO850.out
       (first | subst eo43 | (injection eo43 with f1_ f2_ f3_; have f4_ := f1_.symm; have f5_ := f3_.symm; clear f1_ f2_ f3_; subst f4_; subst f5_))
       obtain ⟨Ao45, co45, eo45⟩ := Kd.R_slice HO853.out
       (first | subst eo45 | (injection eo45 with f1_ f2_ f3_; have f4_ := f1_.symm; have f5_ := f3_.symm; clear f1_ f2_ f3_; subst f4_; subst f5_))
       refine hK.out _ _ ⟨(blk_cell BK824.out 0).trans rfl, (blk_cell BK824.out 1).trans rfl, (blk_cell BK824.out 2).trans rfl, (blk_cell BK824.out 3).trans rfl, (blk_cell BK824.out 4).trans rfl, (blk_cell BK825.out 0).trans rfl, (blk_cell BK825.out 1).trans rfl, (blk_cell BK825.out 2).trans rfl, (blk_cell BK825.out 3).trans rfl, (blk_cell BK825.out 4).trans rfl, (blk_cell BK826.out 0).trans rfl, (blk_cell BK826.out 1).trans rfl, (blk_cell BK826.out 2).trans rfl, (blk_cell BK826.out 3).trans rfl, (blk_cell BK826.out 4).trans rfl⟩ (fun hHeld => ?_)
       clear hK K
       refine norm_ (a' := ?_) ?_ ?_
       rotate_left
       ·show Act.put _ (some 15) _ = _
        simp only [Act.put, sx_, s0_, s1_, i64_w, i32_w]
        rfl
       refine last_ (i := 6) (N := none) #[true, true, true, true, true, true, true, false, false] rfl rfl (one_of HT_.out kr_) (by decide) (fun K hK => ?_)
       have hs26 : w25.cell? ⟨gb824, 0, none⟩ = some (.int .i64 a0_0) := (blk_cell BK824.out 0).trans rfl
       have hfs26 := blk_frozen BK824.out 0
       have hns26_1 := NB825_824.out
       have hns26_2 := NB826_824.out
       have hms26_1 := NB824_825.out
       have hms26_2 := NB824_826.out
       have hs27 : w25.cell? ⟨gb824, 1, none⟩ = some (.string a0_1) := (blk_cell BK824.out 1).trans rfl
       have hfs27 := blk_frozen BK824.out 1
       have hns27_1 := NB825_824.out
       have hns27_2 := NB826_824.out
       have hms27_1 := NB824_825.out
       have hms27_2 := NB824_826.out
       have hs28 : w25.cell? ⟨gb824, 2, none⟩ = some (.string a0_2) := (blk_cell BK824.out 2).trans rfl
       have hfs28 := blk_frozen BK824.out 2
       have hns28_1 := NB825_824.out
       have hns28_2 := NB826_824.out
       have hms28_1 := NB824_825.out
       have hms28_2 := NB824_826.out
       have hs30 : w25.cell? ⟨gb824, 3, none⟩ = some (.slice A0_3 l0_3.length c0_3) := (blk_cell BK824.out 3).trans rfl
       have hfs30 := blk_frozen BK824.out 3
       have hns30_1 := NB825_824.out
       have hns30_2 := NB826_824.out
       have hms30_1 := NB824_825.out
       have hms30_2 := NB824_826.out
       have hs32 : w25.cell? ⟨gb824, 4, none⟩ = some (.slice A0_4 l0_4.length c0_4) := (blk_cell BK824.out 4).trans rfl
       have hfs32 := blk_frozen BK824.out 4
       have hns32_1 := NB825_824.out
       have hns32_2 := NB826_824.out
       have hms32_1 := NB824_825.out
       have hms32_2 := NB824_826.out
       refine skip_ (w1 := ?_) ?_ ?_ ?_ ?_
       rotate_left
       ·rfl
       ·rfl
       ·go_simp
        rfl
       refine hK.out _ _ ?_
       clear hK K
       refine last_ (i := 7) (N := none) #[true, true, true, true, true, true, true, true, false] rfl rfl (one_of HT_.out kr_) (by decide) (fun K hK => ?_)
       have hs33 : w25.cell? ⟨gb825, 0, none⟩ = some (.int .i64 a1_0) := (blk_cell BK825.out 0).trans rfl
       have hfs33 := blk_frozen BK825.out 0
       have hns33_0 := NB824_825.out
       have hns33_2 := NB826_825.out
       have hms33_0 := NB825_824.out
       have hms33_2 := NB825_826.out
       have hs34 : w25.cell? ⟨gb825, 1, none⟩ = some (.string a1_1) := (blk_cell BK825.out 1).trans rfl
       have hfs34 := blk_frozen BK825.out 1
       have hns34_0 := NB824_825.out
       have hns34_2 := NB826_825.out
       have hms34_0 := NB825_824.out
       have hms34_2 := NB825_826.out
       have hs35 : w25.cell? ⟨gb825, 2, none⟩ = some (.string a1_2) := (blk_cell BK825.out 2).trans rfl
       have hfs35 := blk_frozen BK825.out 2
       have hns35_0 := NB824_825.out
       have hns35_2 := NB826_825.out
       have hms35_0 := NB825_824.out
       have hms35_2 := NB825_826.out
       have hs37 : w25.cell? ⟨gb825, 3, none⟩ = some (.slice A1_3 l1_3.length c1_3) := (blk_cell BK825.out 3).trans rfl
       have hfs37 := blk_frozen BK825.out 3
       have hns37_0 := NB824_825.out
       have hns37_2 := NB826_825.out
       have hms37_0 := NB825_824.out
       have hms37_2 := NB825_826.out
       have hs39 : w25.cell? ⟨gb825, 4, none⟩ = some (.slice A1_4 l1_4.length c1_4) := (blk_cell BK825.out 4).trans rfl
       have hfs39 := blk_frozen BK825.out 4
       have hns39_0 := NB824_825.out
       have hns39_2 := NB826_825.out
       have hms39_0 := NB825_824.out
       have hms39_2 := NB825_826.out
       refine skip_ (w1 := ?_) ?_ ?_ ?_ ?_
       rotate_left
       ·rfl
       ·rfl
       ·go_simp
        rfl
       refine hK.out _ _ ?_
       clear hK K
       refine last_ (i := 8) (N := none) #[true, true, true, true, true, true, true, true, true] rfl rfl (one_of HT_.out kr_) (by decide) (fun K hK => ?_)
       have hs40 : w25.cell? ⟨gb826, 0, none⟩ = some (.int .i64 a2_0) := (blk_cell BK826.out 0).trans rfl
       have hfs40 := blk_frozen BK826.out 0
       have hns40_0 := NB824_826.out
       have hns40_1 := NB825_826.out
       have hms40_0 := NB826_824.out
       have hms40_1 := NB826_825.out
       have hs41 : w25.cell? ⟨gb826, 1, none⟩ = some (.string a2_1) := (blk_cell BK826.out 1).trans rfl
       have hfs41 := blk_frozen BK826.out 1
       have hns41_0 := NB824_826.out
       have hns41_1 := NB825_826.out
       have hms41_0 := NB826_824.out
       have hms41_1 := NB826_825.out
       have hs42 : w25.cell? ⟨gb826, 2, none⟩ = some (.string a2_2) := (blk_cell BK826.out 2).trans rfl
       have hfs42 := blk_frozen BK826.out 2
       have hns42_0 := NB824_826.out
       have hns42_1 := NB825_826.out
       have hms42_0 := NB826_824.out
       have hms42_1 := NB826_825.out
       have hs44 : w25.cell? ⟨gb826, 3, none⟩ = some (.slice A2_3 l2_3.length c2_3) := (blk_cell BK826.out 3).trans rfl
       have hfs44 := blk_frozen BK826.out 3
       have hns44_0 := NB824_826.out
       have hns44_1 := NB825_826.out
       have hms44_0 := NB826_824.out
       have hms44_1 := NB826_825.out
       have hs46 : w25.cell? ⟨gb826, 4, none⟩ = some (.slice A2_4 l2_4.length c2_4) := (blk_cell BK826.out 4).trans rfl
       have hfs46 := blk_frozen BK826.out 4
       have hns46_0 := NB824_826.out
       have hns46_1 := NB825_826.out
       have hms46_0 := NB826_824.out
       have hms46_1 := NB826_825.out
       refine skip_ (w1 := ?_) ?_ ?_ ?_ ?_
       rotate_left
       ·rfl
       ·rfl
       ·go_simp
        rfl
       refine hK.out _ _ ?_
       clear hK K
       refine done_ (done_of HT_.out kr_) ?_
       try go_wp2
       have n0_ : Aside0 (Kd.R k49 49 (((((((((((((((w25.setCell ⟨gb824, 0, none⟩ (.int .i64 t827)).setCell ⟨gb824, 1, none⟩ (.string t828)).setCell ⟨gb824, 2, none⟩ (.string t829)).setCell ⟨gb824, 3, none⟩ (.slice Ao29 t830.length co29)).setCell ⟨gb824, 4, none⟩ (.slice Ao31 t833.length co31)).setCell ⟨gb825, 0, none⟩ (.int .i64 t836)).setCell ⟨gb825, 1, none⟩ (.string t837)).setCell ⟨gb825, 2, none⟩ (.string t838)).setCell ⟨gb825, 3, none⟩ (.slice Ao36 t839.length co36)).setCell ⟨gb825, 4, none⟩ (.slice Ao38 t842.length co38)).setCell ⟨gb826, 0, none⟩ (.int .i64 t845)).setCell ⟨gb826, 1, none⟩ (.string t846)).setCell ⟨gb826, 2, none⟩ (.string t847)).setCell ⟨gb826, 3, none⟩ (.slice Ao43 t848.length co43)).setCell ⟨gb826, 4, none⟩ (.slice Ao45 t851.length co45)) w.heap.size (fun k_ => some k_ ≠ (.slice Ao31 t833.length co31 : Value).ownBlock ∧ some k_ ≠ (.slice Ao36 t839.length co36 : Value).ownBlock ∧ some k_ ≠ (.slice Ao38 t842.length co38 : Value).ownBlock ∧ some k_ ≠ (.slice Ao43 t848.length co43 : Value).ownBlock ∧ some k_ ≠ (.slice Ao45 t851.length co45 : Value).ownBlock) (.slice Ao29 t830.length co29) t830) := ⟨by (with_reducible repeat (first | apply Kd.R_alloc | apply Kd.R_drewN | apply Kd.R_drew)); exact Kd.R_mono (Kd.R_far (p := ⟨gb826, 4, none⟩) (Kd.R_far (p := ⟨gb826, 3, none⟩) (Kd.R_far (p := ⟨gb826, 2, none⟩) (Kd.R_far (p := ⟨gb826, 1, none⟩) (Kd.R_far (p := ⟨gb826, 0, none⟩) (Kd.R_far (p := ⟨gb825, 4, none⟩) (Kd.R_far (p := ⟨gb825, 3, none⟩) (Kd.R_far (p := ⟨gb825, 2, none⟩) (Kd.R_far (p := ⟨gb825, 1, none⟩) (Kd.R_far (p := ⟨gb825, 0, none⟩) (Kd.R_far (p := ⟨gb824, 4, none⟩) (Kd.R_far (p := ⟨gb824, 3, none⟩) (Kd.R_far (p := ⟨gb824, 2, none⟩) (Kd.R_far (p := ⟨gb824, 1, none⟩) (Kd.R_far (p := ⟨gb824, 0, none⟩) (Kd.R_types (Kd.R_types (Kd.R_types HO832.out BK824.out (by decide)) BK825.out (by decide)) BK826.out (by decide)) (fun _ hk => hk.1.1.2) (.int .i64 t827)) (fun _ hk => hk.1.1.2) (.string t828)) (fun _ hk => hk.1.1.2) (.string t829)) (fun _ hk => hk.1.1.2) (.slice Ao29 t830.length co29)) (fun _ hk => hk.1.1.2) (.slice Ao31 t833.length co31)) (fun _ hk => hk.1.2) (.int .i64 t836)) (fun _ hk => hk.1.2) (.string t837)) (fun _ hk => hk.1.2) (.string t838)) (fun _ hk => hk.1.2) (.slice Ao36 t839.length co36)) (fun _ hk => hk.1.2) (.slice Ao38 t842.length co38)) (fun _ hk => hk.2) (.int .i64 t845)) (fun _ hk => hk.2) (.string t846)) (fun _ hk => hk.2) (.string t847)) (fun _ hk => hk.2) (.slice Ao43 t848.length co43)) (fun _ hk => hk.2) (.slice Ao45 t851.length co45)) (fun _ hk => ⟨hk.1.1.1.1.1.1.1, ⟨hk.1.1.1.1.1.1.2, ⟨hk.1.1.1.1.1.2, ⟨hk.1.1.1.1.2, hk.1.1.1.2⟩⟩⟩⟩)⟩
       have n1_ : Aside0 (Kd.R k49 49 (((((((((((((((w25.setCell ⟨gb824, 0, none⟩ (.int .i64 t827)).setCell ⟨gb824, 1, none⟩ (.string t828)).setCell ⟨gb824, 2, none⟩ (.string t829)).setCell ⟨gb824, 3, none⟩ (.slice Ao29 t830.length co29)).setCell ⟨gb824, 4, none⟩ (.slice Ao31 t833.length co31)).setCell ⟨gb825, 0, none⟩ (.int .i64 t836)).setCell ⟨gb825, 1, none⟩ (.string t837)).setCell ⟨gb825, 2, none⟩ (.string t838)).setCell ⟨gb825, 3, none⟩ (.slice Ao36 t839.length co36)).setCell ⟨gb825, 4, none⟩ (.slice Ao38 t842.length co38)).setCell ⟨gb826, 0, none⟩ (.int .i64 t845)).setCell ⟨gb826, 1, none⟩ (.string t846)).setCell ⟨gb826, 2, none⟩ (.string t847)).setCell ⟨gb826, 3, none⟩ (.slice Ao43 t848.length co43)).setCell ⟨gb826, 4, none⟩ (.slice Ao45 t851.length co45)) w.heap.size (fun k_ => some k_ ≠ (.slice Ao29 t830.length co29 : Value).ownBlock ∧ some k_ ≠ (.slice Ao36 t839.length co36 : Value).ownBlock ∧ some k_ ≠ (.slice Ao38 t842.length co38 : Value).ownBlock ∧ some k_ ≠ (.slice Ao43 t848.length co43 : Value).ownBlock ∧ some k_ ≠ (.slice Ao45 t851.length co45 : Value).ownBlock) (.slice Ao31 t833.length co31) t833) := ⟨by (with_reducible repeat (first | apply Kd.R_alloc | apply Kd.R_drewN | apply Kd.R_drew)); exact Kd.R_mono (Kd.R_far (p := ⟨gb826, 4, none⟩) (Kd.R_far (p := ⟨gb826, 3, none⟩) (Kd.R_far (p := ⟨gb826, 2, none⟩) (Kd.R_far (p := ⟨gb826, 1, none⟩) (Kd.R_far (p := ⟨gb826, 0, none⟩) (Kd.R_far (p := ⟨gb825, 4, none⟩) (Kd.R_far (p := ⟨gb825, 3, none⟩) (Kd.R_far (p := ⟨gb825, 2, none⟩) (Kd.R_far (p := ⟨gb825, 1, none⟩) (Kd.R_far (p := ⟨gb825, 0, none⟩) (Kd.R_far (p := ⟨gb824, 4, none⟩) (Kd.R_far (p := ⟨gb824, 3, none⟩) (Kd.R_far (p := ⟨gb824, 2, none⟩) (Kd.R_far (p := ⟨gb824, 1, none⟩) (Kd.R_far (p := ⟨gb824, 0, none⟩) (Kd.R_types (Kd.R_types (Kd.R_types HO835.out BK824.out (by decide)) BK825.out (by decide)) BK826.out (by decide)) (fun _ hk => hk.1.1.2) (.int .i64 t827)) (fun _ hk => hk.1.1.2) (.string t828)) (fun _ hk => hk.1.1.2) (.string t829)) (fun _ hk => hk.1.1.2) (.slice Ao29 t830.length co29)) (fun _ hk => hk.1.1.2) (.slice Ao31 t833.length co31)) (fun _ hk => hk.1.2) (.int .i64 t836)) (fun _ hk => hk.1.2) (.string t837)) (fun _ hk => hk.1.2) (.string t838)) (fun _ hk => hk.1.2) (.slice Ao36 t839.length co36)) (fun _ hk => hk.1.2) (.slice Ao38 t842.length co38)) (fun _ hk => hk.2) (.int .i64 t845)) (fun _ hk => hk.2) (.string t846)) (fun _ hk => hk.2) (.string t847)) (fun _ hk => hk.2) (.slice Ao43 t848.length co43)) (fun _ hk => hk.2) (.slice Ao45 t851.length co45)) (fun _ hk => ⟨hk.1.1.1.1.1.1.1, ⟨hk.1.1.1.1.1.1.2, ⟨hk.1.1.1.1.1.2, ⟨hk.1.1.1.1.2, hk.1.1.1.2⟩⟩⟩⟩)⟩
       have n2_ : Aside0 (Kd.R k49 49 (((((((((((((((w25.setCell ⟨gb824, 0, none⟩ (.int .i64 t827)).setCell ⟨gb824, 1, none⟩ (.string t828)).setCell ⟨gb824, 2, none⟩ (.string t829)).setCell ⟨gb824, 3, none⟩ (.slice Ao29 t830.length co29)).setCell ⟨gb824, 4, none⟩ (.slice Ao31 t833.length co31)).setCell ⟨gb825, 0, none⟩ (.int .i64 t836)).setCell ⟨gb825, 1, none⟩ (.string t837)).setCell ⟨gb825, 2, none⟩ (.string t838)).setCell ⟨gb825, 3, none⟩ (.slice Ao36 t839.length co36)).setCell ⟨gb825, 4, none⟩ (.slice Ao38 t842.length co38)).setCell ⟨gb826, 0, none⟩ (.int .i64 t845)).setCell ⟨gb826, 1, none⟩ (.string t846)).setCell ⟨gb826, 2, none⟩ (.string t847)).setCell ⟨gb826, 3, none⟩ (.slice Ao43 t848.length co43)).setCell ⟨gb826, 4, none⟩ (.slice Ao45 t851.length co45)) w.heap.size (fun k_ => some k_ ≠ (.slice Ao29 t830.length co29 : Value).ownBlock ∧ some k_ ≠ (.slice Ao31 t833.length co31 : Value).ownBlock ∧ some k_ ≠ (.slice Ao38 t842.length co38 : Value).ownBlock ∧ some k_ ≠ (.slice Ao43 t848.length co43 : Value).ownBlock ∧ some k_ ≠ (.slice Ao45 t851.length co45 : Value).ownBlock) (.slice Ao36 t839.length co36) t839) := ⟨by (with_reducible repeat (first | apply Kd.R_alloc | apply Kd.R_drewN | apply Kd.R_drew)); exact Kd.R_mono (Kd.R_far (p := ⟨gb826, 4, none⟩) (Kd.R_far (p := ⟨gb826, 3, none⟩) (Kd.R_far (p := ⟨gb826, 2, none⟩) (Kd.R_far (p := ⟨gb826, 1, none⟩) (Kd.R_far (p := ⟨gb826, 0, none⟩) (Kd.R_far (p := ⟨gb825, 4, none⟩) (Kd.R_far (p := ⟨gb825, 3, none⟩) (Kd.R_far (p := ⟨gb825, 2, none⟩) (Kd.R_far (p := ⟨gb825, 1, none⟩) (Kd.R_far (p := ⟨gb825, 0, none⟩) (Kd.R_far (p := ⟨gb824, 4, none⟩) (Kd.R_far (p := ⟨gb824, 3, none⟩) (Kd.R_far (p := ⟨gb824, 2, none⟩) (Kd.R_far (p := ⟨gb824, 1, none⟩) (Kd.R_far (p := ⟨gb824, 0, none⟩) (Kd.R_types (Kd.R_types (Kd.R_types HO841.out BK824.out (by decide)) BK825.out (by decide)) BK826.out (by decide)) (fun _ hk => hk.1.1.2) (.int .i64 t827)) (fun _ hk => hk.1.1.2) (.string t828)) (fun _ hk => hk.1.1.2) (.string t829)) (fun _ hk => hk.1.1.2) (.slice Ao29 t830.length co29)) (fun _ hk => hk.1.1.2) (.slice Ao31 t833.length co31)) (fun _ hk => hk.1.2) (.int .i64 t836)) (fun _ hk => hk.1.2) (.string t837)) (fun _ hk => hk.1.2) (.string t838)) (fun _ hk => hk.1.2) (.slice Ao36 t839.length co36)) (fun _ hk => hk.1.2) (.slice Ao38 t842.length co38)) (fun _ hk => hk.2) (.int .i64 t845)) (fun _ hk => hk.2) (.string t846)) (fun _ hk => hk.2) (.string t847)) (fun _ hk => hk.2) (.slice Ao43 t848.length co43)) (fun _ hk => hk.2) (.slice Ao45 t851.length co45)) (fun _ hk => ⟨hk.1.1.1.1.1.1.2, ⟨hk.1.1.1.1.1.2, ⟨hk.1.1.1.1.1.1.1, ⟨hk.1.1.1.1.2, hk.1.1.1.2⟩⟩⟩⟩)⟩
       have n3_ : Aside0 (Kd.R k49 49 (((((((((((((((w25.setCell ⟨gb824, 0, none⟩ (.int .i64 t827)).setCell ⟨gb824, 1, none⟩ (.string t828)).setCell ⟨gb824, 2, none⟩ (.string t829)).setCell ⟨gb824, 3, none⟩ (.slice Ao29 t830.length co29)).setCell ⟨gb824, 4, none⟩ (.slice Ao31 t833.length co31)).setCell ⟨gb825, 0, none⟩ (.int .i64 t836)).setCell ⟨gb825, 1, none⟩ (.string t837)).setCell ⟨gb825, 2, none⟩ (.string t838)).setCell ⟨gb825, 3, none⟩ (.slice Ao36 t839.length co36)).setCell ⟨gb825, 4, none⟩ (.slice Ao38 t842.length co38)).setCell ⟨gb826, 0, none⟩ (.int .i64 t845)).setCell ⟨gb826, 1, none⟩ (.string t846)).setCell ⟨gb826, 2, none⟩ (.string t847)).setCell ⟨gb826, 3, none⟩ (.slice Ao43 t848.length co43)).setCell ⟨gb826, 4, none⟩ (.slice Ao45 t851.length co45)) w.heap.size (fun k_ => some k_ ≠ (.slice Ao29 t830.length co29 : Value).ownBlock ∧ some k_ ≠ (.slice Ao31 t833.length co31 : Value).ownBlock ∧ some k_ ≠ (.slice Ao36 t839.length co36 : Value).ownBlock ∧ some k_ ≠ (.slice Ao43 t848.length co43 : Value).ownBlock ∧ some k_ ≠ (.slice Ao45 t851.length co45 : Value).ownBlock) (.slice Ao38 t842.length co38) t842) := ⟨by (with_reducible repeat (first | apply Kd.R_alloc | apply Kd.R_drewN | apply Kd.R_drew)); exact Kd.R_mono (Kd.R_far (p := ⟨gb826, 4, none⟩) (Kd.R_far (p := ⟨gb826, 3, none⟩) (Kd.R_far (p := ⟨gb826, 2, none⟩) (Kd.R_far (p := ⟨gb826, 1, none⟩) (Kd.R_far (p := ⟨gb826, 0, none⟩) (Kd.R_far (p := ⟨gb825, 4, none⟩) (Kd.R_far (p := ⟨gb825, 3, none⟩) (Kd.R_far (p := ⟨gb825, 2, none⟩) (Kd.R_far (p := ⟨gb825, 1, none⟩) (Kd.R_far (p := ⟨gb825, 0, none⟩) (Kd.R_far (p := ⟨gb824, 4, none⟩) (Kd.R_far (p := ⟨gb824, 3, none⟩) (Kd.R_far (p := ⟨gb824, 2, none⟩) (Kd.R_far (p := ⟨gb824, 1, none⟩) (Kd.R_far (p := ⟨gb824, 0, none⟩) (Kd.R_types (Kd.R_types (Kd.R_types HO844.out BK824.out (by decide)) BK825.out (by decide)) BK826.out (by decide)) (fun _ hk => hk.1.1.2) (.int .i64 t827)) (fun _ hk => hk.1.1.2) (.string t828)) (fun _ hk => hk.1.1.2) (.string t829)) (fun _ hk => hk.1.1.2) (.slice Ao29 t830.length co29)) (fun _ hk => hk.1.1.2) (.slice Ao31 t833.length co31)) (fun _ hk => hk.1.2) (.int .i64 t836)) (fun _ hk => hk.1.2) (.string t837)) (fun _ hk => hk.1.2) (.string t838)) (fun _ hk => hk.1.2) (.slice Ao36 t839.length co36)) (fun _ hk => hk.1.2) (.slice Ao38 t842.length co38)) (fun _ hk => hk.2) (.int .i64 t845)) (fun _ hk => hk.2) (.string t846)) (fun _ hk => hk.2) (.string t847)) (fun _ hk => hk.2) (.slice Ao43 t848.length co43)) (fun _ hk => hk.2) (.slice Ao45 t851.length co45)) (fun _ hk => ⟨hk.1.1.1.1.1.1.2, ⟨hk.1.1.1.1.1.2, ⟨hk.1.1.1.1.1.1.1, ⟨hk.1.1.1.1.2, hk.1.1.1.2⟩⟩⟩⟩)⟩
       have n4_ : Aside0 (Kd.R k49 49 (((((((((((((((w25.setCell ⟨gb824, 0, none⟩ (.int .i64 t827)).setCell ⟨gb824, 1, none⟩ (.string t828)).setCell ⟨gb824, 2, none⟩ (.string t829)).setCell ⟨gb824, 3, none⟩ (.slice Ao29 t830.length co29)).setCell ⟨gb824, 4, none⟩ (.slice Ao31 t833.length co31)).setCell ⟨gb825, 0, none⟩ (.int .i64 t836)).setCell ⟨gb825, 1, none⟩ (.string t837)).setCell ⟨gb825, 2, none⟩ (.string t838)).setCell ⟨gb825, 3, none⟩ (.slice Ao36 t839.length co36)).setCell ⟨gb825, 4, none⟩ (.slice Ao38 t842.length co38)).setCell ⟨gb826, 0, none⟩ (.int .i64 t845)).setCell ⟨gb826, 1, none⟩ (.string t846)).setCell ⟨gb826, 2, none⟩ (.string t847)).setCell ⟨gb826, 3, none⟩ (.slice Ao43 t848.length co43)).setCell ⟨gb826, 4, none⟩ (.slice Ao45 t851.length co45)) w.heap.size (fun k_ => some k_ ≠ (.slice Ao29 t830.length co29 : Value).ownBlock ∧ some k_ ≠ (.slice Ao31 t833.length co31 : Value).ownBlock ∧ some k_ ≠ (.slice Ao36 t839.length co36 : Value).ownBlock ∧ some k_ ≠ (.slice Ao38 t842.length co38 : Value).ownBlock ∧ some k_ ≠ (.slice Ao45 t851.length co45 : Value).ownBlock) (.slice Ao43 t848.length co43) t848) := ⟨by (with_reducible repeat (first | apply Kd.R_alloc | apply Kd.R_drewN | apply Kd.R_drew)); exact Kd.R_mono (Kd.R_far (p := ⟨gb826, 4, none⟩) (Kd.R_far (p := ⟨gb826, 3, none⟩) (Kd.R_far (p := ⟨gb826, 2, none⟩) (Kd.R_far (p := ⟨gb826, 1, none⟩) (Kd.R_far (p := ⟨gb826, 0, none⟩) (Kd.R_far (p := ⟨gb825, 4, none⟩) (Kd.R_far (p := ⟨gb825, 3, none⟩) (Kd.R_far (p := ⟨gb825, 2, none⟩) (Kd.R_far (p := ⟨gb825, 1, none⟩) (Kd.R_far (p := ⟨gb825, 0, none⟩) (Kd.R_far (p := ⟨gb824, 4, none⟩) (Kd.R_far (p := ⟨gb824, 3, none⟩) (Kd.R_far (p := ⟨gb824, 2, none⟩) (Kd.R_far (p := ⟨gb824, 1, none⟩) (Kd.R_far (p := ⟨gb824, 0, none⟩) (Kd.R_types (Kd.R_types (Kd.R_types HO850.out BK824.out (by decide)) BK825.out (by decide)) BK826.out (by decide)) (fun _ hk => hk.1.1.2) (.int .i64 t827)) (fun _ hk => hk.1.1.2) (.string t828)) (fun _ hk => hk.1.1.2) (.string t829)) (fun _ hk => hk.1.1.2) (.slice Ao29 t830.length co29)) (fun _ hk => hk.1.1.2) (.slice Ao31 t833.length co31)) (fun _ hk => hk.1.2) (.int .i64 t836)) (fun _ hk => hk.1.2) (.string t837)) (fun _ hk => hk.1.2) (.string t838)) (fun _ hk => hk.1.2) (.slice Ao36 t839.length co36)) (fun _ hk => hk.1.2) (.slice Ao38 t842.length co38)) (fun _ hk => hk.2) (.int .i64 t845)) (fun _ hk => hk.2) (.string t846)) (fun _ hk => hk.2) (.string t847)) (fun _ hk => hk.2) (.slice Ao43 t848.length co43)) (fun _ hk => hk.2) (.slice Ao45 t851.length co45)) (fun _ hk => ⟨hk.1.1.1.1.1.1.2, ⟨hk.1.1.1.1.1.2, ⟨hk.1.1.1.1.2, ⟨hk.1.1.1.2, hk.1.1.1.1.1.1.1⟩⟩⟩⟩)⟩
       have n5_ : Aside0 (Kd.R k49 49 (((((((((((((((w25.setCell ⟨gb824, 0, none⟩ (.int .i64 t827)).setCell ⟨gb824, 1, none⟩ (.string t828)).setCell ⟨gb824, 2, none⟩ (.string t829)).setCell ⟨gb824, 3, none⟩ (.slice Ao29 t830.length co29)).setCell ⟨gb824, 4, none⟩ (.slice Ao31 t833.length co31)).setCell ⟨gb825, 0, none⟩ (.int .i64 t836)).setCell ⟨gb825, 1, none⟩ (.string t837)).setCell ⟨gb825, 2, none⟩ (.string t838)).setCell ⟨gb825, 3, none⟩ (.slice Ao36 t839.length co36)).setCell ⟨gb825, 4, none⟩ (.slice Ao38 t842.length co38)).setCell ⟨gb826, 0, none⟩ (.int .i64 t845)).setCell ⟨gb826, 1, none⟩ (.string t846)).setCell ⟨gb826, 2, none⟩ (.string t847)).setCell ⟨gb826, 3, none⟩ (.slice Ao43 t848.length co43)).setCell ⟨gb826, 4, none⟩ (.slice Ao45 t851.length co45)) w.heap.size (fun k_ => some k_ ≠ (.slice Ao29 t830.length co29 : Value).ownBlock ∧ some k_ ≠ (.slice Ao31 t833.length co31 : Value).ownBlock ∧ some k_ ≠ (.slice Ao36 t839.length co36 : Value).ownBlock ∧ some k_ ≠ (.slice Ao38 t842.length co38 : Value).ownBlock ∧ some k_ ≠ (.slice Ao43 t848.length co43 : Value).ownBlock) (.slice Ao45 t851.length co45) t851) := ⟨by (with_reducible repeat (first | apply Kd.R_alloc | apply Kd.R_drewN | apply Kd.R_drew)); exact Kd.R_mono (Kd.R_far (p := ⟨gb826, 4, none⟩) (Kd.R_far (p := ⟨gb826, 3, none⟩) (Kd.R_far (p := ⟨gb826, 2, none⟩) (Kd.R_far (p := ⟨gb826, 1, none⟩) (Kd.R_far (p := ⟨gb826, 0, none⟩) (Kd.R_far (p := ⟨gb825, 4, none⟩) (Kd.R_far (p := ⟨gb825, 3, none⟩) (Kd.R_far (p := ⟨gb825, 2, none⟩) (Kd.R_far (p := ⟨gb825, 1, none⟩) (Kd.R_far (p := ⟨gb825, 0, none⟩) (Kd.R_far (p := ⟨gb824, 4, none⟩) (Kd.R_far (p := ⟨gb824, 3, none⟩) (Kd.R_far (p := ⟨gb824, 2, none⟩) (Kd.R_far (p := ⟨gb824, 1, none⟩) (Kd.R_far (p := ⟨gb824, 0, none⟩) (Kd.R_types (Kd.R_types (Kd.R_types HO853.out BK824.out (by decide)) BK825.out (by decide)) BK826.out (by decide)) (fun _ hk => hk.1.1.2) (.int .i64 t827)) (fun _ hk => hk.1.1.2) (.string t828)) (fun _ hk => hk.1.1.2) (.string t829)) (fun _ hk => hk.1.1.2) (.slice Ao29 t830.length co29)) (fun _ hk => hk.1.1.2) (.slice Ao31 t833.length co31)) (fun _ hk => hk.1.2) (.int .i64 t836)) (fun _ hk => hk.1.2) (.string t837)) (fun _ hk => hk.1.2) (.string t838)) (fun _ hk => hk.1.2) (.slice Ao36 t839.length co36)) (fun _ hk => hk.1.2) (.slice Ao38 t842.length co38)) (fun _ hk => hk.2) (.int .i64 t845)) (fun _ hk => hk.2) (.string t846)) (fun _ hk => hk.2) (.string t847)) (fun _ hk => hk.2) (.slice Ao43 t848.length co43)) (fun _ hk => hk.2) (.slice Ao45 t851.length co45)) (fun _ hk => ⟨hk.1.1.1.1.1.1.2, ⟨hk.1.1.1.1.1.2, ⟨hk.1.1.1.1.2, ⟨hk.1.1.1.2, hk.1.1.1.1.1.1.1⟩⟩⟩⟩)⟩
       have n6_ : Aside0 ((((((((((((((((w25.setCell ⟨gb824, 0, none⟩ (.int .i64 t827)).setCell ⟨gb824, 1, none⟩ (.string t828)).setCell ⟨gb824, 2, none⟩ (.string t829)).setCell ⟨gb824, 3, none⟩ (.slice Ao29 t830.length co29)).setCell ⟨gb824, 4, none⟩ (.slice Ao31 t833.length co31)).setCell ⟨gb825, 0, none⟩ (.int .i64 t836)).setCell ⟨gb825, 1, none⟩ (.string t837)).setCell ⟨gb825, 2, none⟩ (.string t838)).setCell ⟨gb825, 3, none⟩ (.slice Ao36 t839.length co36)).setCell ⟨gb825, 4, none⟩ (.slice Ao38 t842.length co38)).setCell ⟨gb826, 0, none⟩ (.int .i64 t845)).setCell ⟨gb826, 1, none⟩ (.string t846)).setCell ⟨gb826, 2, none⟩ (.string t847)).setCell ⟨gb826, 3, none⟩ (.slice Ao43 t848.length co43)).setCell ⟨gb826, 4, none⟩ (.slice Ao45 t851.length co45)).heap[gb824]? = some (.cells #[.int .i64 t827, .string t828, .string t829, .slice Ao29 t830.length co29, .slice Ao31 t833.length co31] 26 (0, 0))) := ⟨by (with_reducible repeat (first | refine blk_drewN ?_ _ | refine blk_drew ?_ | refine blk_alloc ?_ _)); refine blk_far ?_ NB824_826.out _; (with_reducible repeat (first | refine blk_drewN ?_ _ | refine blk_drew ?_ | refine blk_alloc ?_ _)); refine blk_far ?_ NB824_826.out _; (with_reducible repeat (first | refine blk_drewN ?_ _ | refine blk_drew ?_ | refine blk_alloc ?_ _)); refine blk_far ?_ NB824_826.out _; (with_reducible repeat (first | refine blk_drewN ?_ _ | refine blk_drew ?_ | refine blk_alloc ?_ _)); refine blk_far ?_ NB824_826.out _; (with_reducible repeat (first | refine blk_drewN ?_ _ | refine blk_drew ?_ | refine blk_alloc ?_ _)); refine blk_far ?_ NB824_826.out _; (with_reducible repeat (first | refine blk_drewN ?_ _ | refine blk_drew ?_ | refine blk_alloc ?_ _)); refine blk_far ?_ NB824_825.out _; (with_reducible repeat (first | refine blk_drewN ?_ _ | refine blk_drew ?_ | refine blk_alloc ?_ _)); refine blk_far ?_ NB824_825.out _; (with_reducible repeat (first | refine blk_drewN ?_ _ | refine blk_drew ?_ | refine blk_alloc ?_ _)); refine blk_far ?_ NB824_825.out _; (with_reducible repeat (first | refine blk_drewN ?_ _ | refine blk_drew ?_ | refine blk_alloc ?_ _)); refine blk_far ?_ NB824_825.out _; (with_reducible repeat (first | refine blk_drewN ?_ _ | refine blk_drew ?_ | refine blk_alloc ?_ _)); refine blk_far ?_ NB824_825.out _; (with_reducible repeat (first | refine blk_drewN ?_ _ | refine blk_drew ?_ | refine blk_alloc ?_ _)); refine blk_put (cs := #[.int .i64 t827, .string t828, .string t829, .slice Ao29 t830.length co29, .slice A0_4 l0_4.length c0_4]) ?_ 4 _ rfl; (with_reducible repeat (first | refine blk_drewN ?_ _ | refine blk_drew ?_ | refine blk_alloc ?_ _)); refine blk_put (cs := #[.int .i64 t827, .string t828, .string t829, .slice A0_3 l0_3.length c0_3, .slice A0_4 l0_4.length c0_4]) ?_ 3 _ rfl; (with_reducible repeat (first | refine blk_drewN ?_ _ | refine blk_drew ?_ | refine blk_alloc ?_ _)); refine blk_put (cs := #[.int .i64 t827, .string t828, .string a0_2, .slice A0_3 l0_3.length c0_3, .slice A0_4 l0_4.length c0_4]) ?_ 2 _ rfl; (with_reducible repeat (first | refine blk_drewN ?_ _ | refine blk_drew ?_ | refine blk_alloc ?_ _)); refine blk_put (cs := #[.int .i64 t827, .string a0_1, .string a0_2, .slice A0_3 l0_3.length c0_3, .slice A0_4 l0_4.length c0_4]) ?_ 1 _ rfl; (with_reducible repeat (first | refine blk_drewN ?_ _ | refine blk_drew ?_ | refine blk_alloc ?_ _)); refine blk_put (cs := #[.int .i64 a0_0, .string a0_1, .string a0_2, .slice A0_3 l0_3.length c0_3, .slice A0_4 l0_4.length c0_4]) ?_ 0 _ rfl; (with_reducible repeat (first | refine blk_drewN ?_ _ | refine blk_drew ?_ | refine blk_alloc ?_ _)); exact BK824.out⟩
       have n7_ : Aside0 ((((((((((((((((w25.setCell ⟨gb824, 0, none⟩ (.int .i64 t827)).setCell ⟨gb824, 1, none⟩ (.string t828)).setCell ⟨gb824, 2, none⟩ (.string t829)).setCell ⟨gb824, 3, none⟩ (.slice Ao29 t830.length co29)).setCell ⟨gb824, 4, none⟩ (.slice Ao31 t833.length co31)).setCell ⟨gb825, 0, none⟩ (.int .i64 t836)).setCell ⟨gb825, 1, none⟩ (.string t837)).setCell ⟨gb825, 2, none⟩ (.string t838)).setCell ⟨gb825, 3, none⟩ (.slice Ao36 t839.length co36)).setCell ⟨gb825, 4, none⟩ (.slice Ao38 t842.length co38)).setCell ⟨gb826, 0, none⟩ (.int .i64 t845)).setCell ⟨gb826, 1, none⟩ (.string t846)).setCell ⟨gb826, 2, none⟩ (.string t847)).setCell ⟨gb826, 3, none⟩ (.slice Ao43 t848.length co43)).setCell ⟨gb826, 4, none⟩ (.slice Ao45 t851.length co45)).heap[gb825]? = some (.cells #[.int .i64 t836, .string t837, .string t838, .slice Ao36 t839.length co36, .slice Ao38 t842.length co38] 26 (0, 0))) := ⟨by (with_reducible repeat (first | refine blk_drewN ?_ _ | refine blk_drew ?_ | refine blk_alloc ?_ _)); refine blk_far ?_ NB825_826.out _; (with_reducible repeat (first | refine blk_drewN ?_ _ | refine blk_drew ?_ | refine blk_alloc ?_ _)); refine blk_far ?_ NB825_826.out _; (with_reducible repeat (first | refine blk_drewN ?_ _ | refine blk_drew ?_ | refine blk_alloc ?_ _)); refine blk_far ?_ NB825_826.out _; (with_reducible repeat (first | refine blk_drewN ?_ _ | refine blk_drew ?_ | refine blk_alloc ?_ _)); refine blk_far ?_ NB825_826.out _; (with_reducible repeat (first | refine blk_drewN ?_ _ | refine blk_drew ?_ | refine blk_alloc ?_ _)); refine blk_far ?_ NB825_826.out _; (with_reducible repeat (first | refine blk_drewN ?_ _ | refine blk_drew ?_ | refine blk_alloc ?_ _)); refine blk_put (cs := #[.int .i64 t836, .string t837, .string t838, .slice Ao36 t839.length co36, .slice A1_4 l1_4.length c1_4]) ?_ 4 _ rfl; (with_reducible repeat (first | refine blk_drewN ?_ _ | refine blk_drew ?_ | refine blk_alloc ?_ _)); refine blk_put (cs := #[.int .i64 t836, .string t837, .string t838, .slice A1_3 l1_3.length c1_3, .slice A1_4 l1_4.length c1_4]) ?_ 3 _ rfl; (with_reducible repeat (first | refine blk_drewN ?_ _ | refine blk_drew ?_ | refine blk_alloc ?_ _)); refine blk_put (cs := #[.int .i64 t836, .string t837, .string a1_2, .slice A1_3 l1_3.length c1_3, .slice A1_4 l1_4.length c1_4]) ?_ 2 _ rfl; (with_reducible repeat (first | refine blk_drewN ?_ _ | refine blk_drew ?_ | refine blk_alloc ?_ _)); refine blk_put (cs := #[.int .i64 t836, .string a1_1, .string a1_2, .slice A1_3 l1_3.length c1_3, .slice A1_4 l1_4.length c1_4]) ?_ 1 _ rfl; (with_reducible repeat (first | refine blk_drewN ?_ _ | refine blk_drew ?_ | refine blk_alloc ?_ _)); refine blk_put (cs := #[.int .i64 a1_0, .string a1_1, .string a1_2, .slice A1_3 l1_3.length c1_3, .slice A1_4 l1_4.length c1_4]) ?_ 0 _ rfl; (with_reducible repeat (first | refine blk_drewN ?_ _ | refine blk_drew ?_ | refine blk_alloc ?_ _)); refine blk_far ?_ NB825_824.out _; (with_reducible repeat (first | refine blk_drewN ?_ _ | refine blk_drew ?_ | refine blk_alloc ?_ _)); refine blk_far ?_ NB825_824.out _; (with_reducible repeat (first | refine blk_drewN ?_ _ | refine blk_drew ?_ | refine blk_alloc ?_ _)); refine blk_far ?_ NB825_824.out _; (with_reducible repeat (first | refine blk_drewN ?_ _ | refine blk_drew ?_ | refine blk_alloc ?_ _)); refine blk_far ?_ NB825_824.out _; (with_reducible repeat (first | refine blk_drewN ?_ _ | refine blk_drew ?_ | refine blk_alloc ?_ _)); refine blk_far ?_ NB825_824.out _; (with_reducible repeat (first | refine blk_drewN ?_ _ | refine blk_drew ?_ | refine blk_alloc ?_ _)); exact BK825.out⟩
       have n8_ : Aside0 ((((((((((((((((w25.setCell ⟨gb824, 0, none⟩ (.int .i64 t827)).setCell ⟨gb824, 1, none⟩ (.string t828)).setCell ⟨gb824, 2, none⟩ (.string t829)).setCell ⟨gb824, 3, none⟩ (.slice Ao29 t830.length co29)).setCell ⟨gb824, 4, none⟩ (.slice Ao31 t833.length co31)).setCell ⟨gb825, 0, none⟩ (.int .i64 t836)).setCell ⟨gb825, 1, none⟩ (.string t837)).setCell ⟨gb825, 2, none⟩ (.string t838)).setCell ⟨gb825, 3, none⟩ (.slice Ao36 t839.length co36)).setCell ⟨gb825, 4, none⟩ (.slice Ao38 t842.length co38)).setCell ⟨gb826, 0, none⟩ (.int .i64 t845)).setCell ⟨gb826, 1, none⟩ (.string t846)).setCell ⟨gb826, 2, none⟩ (.string t847)).setCell ⟨gb826, 3, none⟩ (.slice Ao43 t848.length co43)).setCell ⟨gb826, 4, none⟩ (.slice Ao45 t851.length co45)).heap[gb826]? = some (.cells #[.int .i64 t845, .string t846, .string t847, .slice Ao43 t848.length co43, .slice Ao45 t851.length co45] 26 (0, 0))) := ⟨by (with_reducible repeat (first | refine blk_drewN ?_ _ | refine blk_drew ?_ | refine blk_alloc ?_ _)); refine blk_put (cs := #[.int .i64 t845, .string t846, .string t847, .slice Ao43 t848.length co43, .slice A2_4 l2_4.length c2_4]) ?_ 4 _ rfl; (with_reducible repeat (first | refine blk_drewN ?_ _ | refine blk_drew ?_ | refine blk_alloc ?_ _)); refine blk_put (cs := #[.int .i64 t845, .string t846, .string t847, .slice A2_3 l2_3.length c2_3, .slice A2_4 l2_4.length c2_4]) ?_ 3 _ rfl; (with_reducible repeat (first | refine blk_drewN ?_ _ | refine blk_drew ?_ | refine blk_alloc ?_ _)); refine blk_put (cs := #[.int .i64 t845, .string t846, .string a2_2, .slice A2_3 l2_3.length c2_3, .slice A2_4 l2_4.length c2_4]) ?_ 2 _ rfl; (with_reducible repeat (first | refine blk_drewN ?_ _ | refine blk_drew ?_ | refine blk_alloc ?_ _)); refine blk_put (cs := #[.int .i64 t845, .string a2_1, .string a2_2, .slice A2_3 l2_3.length c2_3, .slice A2_4 l2_4.length c2_4]) ?_ 1 _ rfl; (with_reducible repeat (first | refine blk_drewN ?_ _ | refine blk_drew ?_ | refine blk_alloc ?_ _)); refine blk_put (cs := #[.int .i64 a2_0, .string a2_1, .string a2_2, .slice A2_3 l2_3.length c2_3, .slice A2_4 l2_4.length c2_4]) ?_ 0 _ rfl; (with_reducible repeat (first | refine blk_drewN ?_ _ | refine blk_drew ?_ | refine blk_alloc ?_ _)); refine blk_far ?_ NB826_825.out _; (with_reducible repeat (first | refine blk_drewN ?_ _ | refine blk_drew ?_ | refine blk_alloc ?_ _)); refine blk_far ?_ NB826_825.out _; (with_reducible repeat (first | refine blk_drewN ?_ _ | refine blk_drew ?_ | refine blk_alloc ?_ _)); refine blk_far ?_ NB826_825.out _; (with_reducible repeat (first | refine blk_drewN ?_ _ | refine blk_drew ?_ | refine blk_alloc ?_ _)); refine blk_far ?_ NB826_825.out _; (with_reducible repeat (first | refine blk_drewN ?_ _ | refine blk_drew ?_ | refine blk_alloc ?_ _)); refine blk_far ?_ NB826_825.out _; (with_reducible repeat (first | refine blk_drewN ?_ _ | refine blk_drew ?_ | refine blk_alloc ?_ _)); refine blk_far ?_ NB826_824.out _; (with_reducible repeat (first | refine blk_drewN ?_ _ | refine blk_drew ?_ | refine blk_alloc ?_ _)); refine blk_far ?_ NB826_824.out _; (with_reducible repeat (first | refine blk_drewN ?_ _ | refine blk_drew ?_ | refine blk_alloc ?_ _)); refine blk_far ?_ NB826_824.out _; (with_reducible repeat (first | refine blk_drewN ?_ _ | refine blk_drew ?_ | refine blk_alloc ?_ _)); refine blk_far ?_ NB826_824.out _; (with_reducible repeat (first | refine blk_drewN ?_ _ | refine blk_drew ?_ | refine blk_alloc ?_ _)); refine blk_far ?_ NB826_824.out _; (with_reducible repeat (first | refine blk_drewN ?_ _ | refine blk_drew ?_ | refine blk_alloc ?_ _)); exact BK826.out⟩
       have n9_ : Aside0 (Below w.heap.size w (((((((((((((((w25.setCell ⟨gb824, 0, none⟩ (.int .i64 t827)).setCell ⟨gb824, 1, none⟩ (.string t828)).setCell ⟨gb824, 2, none⟩ (.string t829)).setCell ⟨gb824, 3, none⟩ (.slice Ao29 t830.length co29)).setCell ⟨gb824, 4, none⟩ (.slice Ao31 t833.length co31)).setCell ⟨gb825, 0, none⟩ (.int .i64 t836)).setCell ⟨gb825, 1, none⟩ (.string t837)).setCell ⟨gb825, 2, none⟩ (.string t838)).setCell ⟨gb825, 3, none⟩ (.slice Ao36 t839.length co36)).setCell ⟨gb825, 4, none⟩ (.slice Ao38 t842.length co38)).setCell ⟨gb826, 0, none⟩ (.int .i64 t845)).setCell ⟨gb826, 1, none⟩ (.string t846)).setCell ⟨gb826, 2, none⟩ (.string t847)).setCell ⟨gb826, 3, none⟩ (.slice Ao43 t848.length co43)).setCell ⟨gb826, 4, none⟩ (.slice Ao45 t851.length co45))) := ⟨bel_ HB.out⟩
       (try clear HO832)
       (try clear HO835)
       (try clear HO841)
       (try clear HO844)
       (try clear HO850)
       (try clear HO853)
       (try clear BK824)
       (try clear BK825)
       (try clear BK826)
       (try clear HB)
       generalize (((((((((((((((w25.setCell ⟨gb824, 0, none⟩ (.int .i64 t827)).setCell ⟨gb824, 1, none⟩ (.string t828)).setCell ⟨gb824, 2, none⟩ (.string t829)).setCell ⟨gb824, 3, none⟩ (.slice Ao29 t830.length co29)).setCell ⟨gb824, 4, none⟩ (.slice Ao31 t833.length co31)).setCell ⟨gb825, 0, none⟩ (.int .i64 t836)).setCell ⟨gb825, 1, none⟩ (.string t837)).setCell ⟨gb825, 2, none⟩ (.string t838)).setCell ⟨gb825, 3, none⟩ (.slice Ao36 t839.length co36)).setCell ⟨gb825, 4, none⟩ (.slice Ao38 t842.length co38)).setCell ⟨gb826, 0, none⟩ (.int .i64 t845)).setCell ⟨gb826, 1, none⟩ (.string t846)).setCell ⟨gb826, 2, none⟩ (.string t847)).setCell ⟨gb826, 3, none⟩ (.slice Ao43 t848.length co43)).setCell ⟨gb826, 4, none⟩ (.slice Ao45 t851.length co45)) = w47 at n0_ n1_ n2_ n3_ n4_ n5_ n6_ n7_ n8_ n9_ ⊢
       have HO832 := n0_
       have HO835 := n1_
       have HO841 := n2_
       have HO844 := n3_
       have HO850 := n4_
       have HO853 := n5_
       have BK824 := n6_
       have BK825 := n7_
       have BK826 := n8_
       have HB := n9_
       clear n0_ n1_ n2_ n3_ n4_ n5_ n6_ n7_ n8_ n9_
       have n0_ := am_ (Kd.R_drew HO832.out)
       have n1_ := am_ (Kd.R_drew HO835.out)
       have n2_ := am_ (Kd.R_drew HO841.out)
       have n3_ := am_ (Kd.R_drew HO844.out)
       have n4_ := am_ (Kd.R_drew HO850.out)
       have n5_ := am_ (Kd.R_drew HO853.out)
       have n6_ := am_ (blk_drew BK824.out)
       have n7_ := am_ (blk_drew BK825.out)
       have n8_ := am_ (blk_drew BK826.out)
       have n9_ := am_ (below_drew1 HB.out)
       clear HO832 HO835 HO841 HO844 HO850 HO853 BK824 BK825 BK826 HB
       have HO832 := n0_
       have HO835 := n1_
       have HO841 := n2_
       have HO844 := n3_
       have HO850 := n4_
       have HO853 := n5_
       have BK824 := n6_
       have BK825 := n7_
       have BK826 := n8_
       have HB := n9_
       clear n0_ n1_ n2_ n3_ n4_ n5_ n6_ n7_ n8_ n9_
       refine start_ (n := 12) (S := fun w' => w'.cell? ⟨gb824, 0, none⟩ = some (.int .i64 t827) ∧ w'.cell? ⟨gb824, 1, none⟩ = some (.string t828) ∧ w'.cell? ⟨gb824, 2, none⟩ = some (.string t829) ∧ w'.cell? ⟨gb824, 3, none⟩ = some (.slice Ao29 t830.length co29) ∧ w'.cell? ⟨gb824, 4, none⟩ = some (.slice Ao31 t833.length co31) ∧ w'.cell? ⟨gb825, 0, none⟩ = some (.int .i64 t836) ∧ w'.cell? ⟨gb825, 1, none⟩ = some (.string t837) ∧ w'.cell? ⟨gb825, 2, none⟩ = some (.string t838) ∧ w'.cell? ⟨gb825, 3, none⟩ = some (.slice Ao36 t839.length co36) ∧ w'.cell? ⟨gb825, 4, none⟩ = some (.slice Ao38 t842.length co38) ∧ w'.cell? ⟨gb826, 0, none⟩ = some (.int .i64 t845) ∧ w'.cell? ⟨gb826, 1, none⟩ = some (.string t846) ∧ w'.cell? ⟨gb826, 2, none⟩ = some (.string t847) ∧ w'.cell? ⟨gb826, 3, none⟩ = some (.slice Ao43 t848.length co43) ∧ w'.cell? ⟨gb826, 4, none⟩ = some (.slice Ao45 t851.length co45)) (ds := []) #[false, false, false, false, false, false, false, false, false, false, false, false] kr_ rfl rfl ⟨(blk_cell BK824.out 0).trans rfl, (blk_cell BK824.out 1).trans rfl, (blk_cell BK824.out 2).trans rfl, (blk_cell BK824.out 3).trans rfl, (blk_cell BK824.out 4).trans rfl, (blk_cell BK825.out 0).trans rfl, (blk_cell BK825.out 1).trans rfl, (blk_cell BK825.out 2).trans rfl, (blk_cell BK825.out 3).trans rfl, (blk_cell BK825.out 4).trans rfl, (blk_cell BK826.out 0).trans rfl, (blk_cell BK826.out 1).trans rfl, (blk_cell BK826.out 2).trans rfl, (blk_cell BK826.out 3).trans rfl, (blk_cell BK826.out 4).trans rfl⟩ (fun hHeld => ?_); refine with_tabW tolllaw06_RuleRanks_g3.tab2 tolllaw06_RuleRanks_g3.bits2 (fun HT_ HW_ => ?_)
       generalize w47.drew = w48 at HO832 HO835 HO841 HO844 HO850 HO853 BK824 BK825 BK826 HB hHeld ⊢
       refine take_ (i := 0) (N := some 16) (v := ?_) (a' := ?_) #[true, false, false, false, false, false, false, false, false, false, false, false] rfl rfl (take_ofW HT_.out HW_.out kr_) (fun _ _ _ h => h) (Or.inl ⟨by rfl, ?_⟩) hHeld ?_ ?_
       rotate_left
       ·rintro w' ⟨s0, s1, s2, s3, s4, s5, s6, s7, s8, s9, s10, s11, s12, s13, s14⟩
        go_simp
        with_reducible rfl
       rotate_left
       ·simp only [Act.put, sx_, s0_, s1_, i64_w, i32_w]
        rfl
       refine take_ (i := 1) (N := some 17) (v := ?_) (a' := ?_) #[true, true, false, false, false, false, false, false, false, false, false, false] rfl rfl (take_ofW HT_.out HW_.out kr_) (fun _ _ _ h => h) (Or.inl ⟨by rfl, ?_⟩) hHeld ?_ ?_
       rotate_left
       ·rintro w' ⟨s0, s1, s2, s3, s4, s5, s6, s7, s8, s9, s10, s11, s12, s13, s14⟩
        go_simp
        with_reducible rfl
       rotate_left
       ·simp only [Act.put, sx_, s0_, s1_, i64_w, i32_w]
        rfl
       refine take_ (i := 3) (N := some 19) (v := ?_) (a' := ?_) #[true, true, false, true, false, false, false, false, false, false, false, false] rfl rfl (take_ofW HT_.out HW_.out kr_) (fun _ _ _ h => h) (Or.inl ⟨by rfl, ?_⟩) hHeld ?_ ?_
       rotate_left
       ·rintro w' ⟨s0, s1, s2, s3, s4, s5, s6, s7, s8, s9, s10, s11, s12, s13, s14⟩
        go_simp
        with_reducible rfl
       rotate_left
       ·simp only [Act.put, sx_, s0_, s1_, i64_w, i32_w]
        rfl
       refine take_ (i := 4) (N := some 20) (v := ?_) (a' := ?_) #[true, true, false, true, true, false, false, false, false, false, false, false] rfl rfl (take_ofW HT_.out HW_.out kr_) (fun _ _ _ h => h) (Or.inl ⟨by rfl, ?_⟩) hHeld ?_ ?_
       rotate_left
       ·rintro w' ⟨s0, s1, s2, s3, s4, s5, s6, s7, s8, s9, s10, s11, s12, s13, s14⟩
        go_simp
        with_reducible rfl
       rotate_left
       ·simp only [Act.put, sx_, s0_, s1_, i64_w, i32_w]
        rfl
       refine take_ (i := 6) (N := some 22) (v := ?_) (a' := ?_) #[true, true, false, true, true, false, true, false, false, false, false, false] rfl rfl (take_ofW HT_.out HW_.out kr_) (fun _ _ _ h => h) (Or.inl ⟨by rfl, ?_⟩) hHeld ?_ ?_
       rotate_left
       ·rintro w' ⟨s0, s1, s2, s3, s4, s5, s6, s7, s8, s9, s10, s11, s12, s13, s14⟩
        go_simp
        with_reducible rfl
       rotate_left
       ·simp only [Act.put, sx_, s0_, s1_, i64_w, i32_w]
        rfl
       refine take_ (i := 7) (N := some 23) (v := ?_) (a' := ?_) #[true, true, false, true, true, false, true, true, false, false, false, false] rfl rfl (take_ofW HT_.out HW_.out kr_) (fun _ _ _ h => h) (Or.inl ⟨by rfl, ?_⟩) hHeld ?_ ?_
       rotate_left
       ·rintro w' ⟨s0, s1, s2, s3, s4, s5, s6, s7, s8, s9, s10, s11, s12, s13, s14⟩
        go_simp
        with_reducible rfl
       rotate_left
       ·simp only [Act.put, sx_, s0_, s1_, i64_w, i32_w]
        rfl
       refine one_ (i := 2) (N := some 18) #[true, true, true, true, true, false, true, true, false, false, false, false] rfl rfl (one_of HT_.out kr_) (by decide) (fun K hK => ?_)
       refine goes_ Tryd.func19 kr_ rfl #[.agg #[.int .i64 t827, .string t828, .string t829, .slice Ao29 t830.length co29, .slice Ao31 t833.length co31], .agg #[.int .i64 t836, .string t837, .string t838, .slice Ao36 t839.length co36, .slice Ao38 t842.length co38]] (by rfl) rfl rfl rl_ ?_
       with_reducible refine (rule_Order.calls t827 t828 t829 _ _ t830 _ _ t833 t836 t837 t838 _ _ t839 _ _ t842 t854 _ ?side1 ?side2 ?side3 ?side4 ?side5 ?side6 ?side7 ?side8 A7.out).mono ?_
       (case side1 => exact C_ (Kd.R_reads' HO832.out).2.2)
       (case side2 => exact (Kd.R_reads' HO832.out).2.1)
       (case side3 => exact C_ (Kd.R_reads' HO835.out).2.2)
       (case side4 => exact (Kd.R_reads' HO835.out).2.1)
       (case side5 => exact C_ (Kd.R_reads' HO841.out).2.2)
       (case side6 => exact (Kd.R_reads' HO841.out).2.1)
       (case side7 => exact C_ (Kd.R_reads' HO844.out).2.2)
       (case side8 => exact (Kd.R_reads' HO844.out).2.1)
       rintro e w49 ⟨rfl, hb⟩
       refine ⟨_, rfl, ?_⟩
       have n0_ := am_ (Kd.R_below (R_ HO832.out) hb)
       have n1_ := am_ (Kd.R_below (R_ HO835.out) hb)
       have n2_ := am_ (Kd.R_below (R_ HO841.out) hb)
       have n3_ := am_ (Kd.R_below (R_ HO844.out) hb)
       have n4_ := am_ (Kd.R_below (R_ HO850.out) hb)
       have n5_ := am_ (Kd.R_below (R_ HO853.out) hb)
       have n6_ := am_ (blk_below (g := gb824) (o := .cells #[.int .i64 t827, .string t828, .string t829, .slice Ao29 t830.length co29, .slice Ao31 t833.length co31] 26 (0, 0)) (blk_ BK824.out) hb)
       have n7_ := am_ (blk_below (g := gb825) (o := .cells #[.int .i64 t836, .string t837, .string t838, .slice Ao36 t839.length co36, .slice Ao38 t842.length co38] 26 (0, 0)) (blk_ BK825.out) hb)
       have n8_ := am_ (blk_below (g := gb826) (o := .cells #[.int .i64 t845, .string t846, .string t847, .slice Ao43 t848.length co43, .slice Ao45 t851.length co45] 26 (0, 0)) (blk_ BK826.out) hb)
       have n9_ := am_ (below_step (bel_ HB.out) hb)
       clear HO832 HO835 HO841 HO844 HO850 HO853 BK824 BK825 BK826 HB
       have HO832 := n0_
       have HO835 := n1_
       have HO841 := n2_
       have HO844 := n3_
       have HO850 := n4_
       have HO853 := n5_
       have BK824 := n6_
       have BK825 := n7_
       have BK826 := n8_
       have HB := n9_
       clear n0_ n1_ n2_ n3_ n4_ n5_ n6_ n7_ n8_ n9_
       (try clear hb)
       (try clear hb2)
       (try clear hk)
       (try clear hi)
       refine hK.out _ _ ⟨(blk_cell BK824.out 0).trans rfl, (blk_cell BK824.out 1).trans rfl, (blk_cell BK824.out 2).trans rfl, (blk_cell BK824.out 3).trans rfl, (blk_cell BK824.out 4).trans rfl, (blk_cell BK825.out 0).trans rfl, (blk_cell BK825.out 1).trans rfl, (blk_cell BK825.out 2).trans rfl, (blk_cell BK825.out 3).trans rfl, (blk_cell BK825.out 4).trans rfl, (blk_cell BK826.out 0).trans rfl, (blk_cell BK826.out 1).trans rfl, (blk_cell BK826.out 2).trans rfl, (blk_cell BK826.out 3).trans rfl, (blk_cell BK826.out 4).trans rfl⟩ (fun hHeld => ?_)
       clear hK K
       refine norm_ (a' := ?_) ?_ ?_
       rotate_left
       ·show Act.put _ (some 18) _ = _
        simp only [Act.put, sx_, s0_, s1_, i64_w, i32_w]
        rfl
       refine one_ (i := 5) (N := some 21) #[true, true, true, true, true, true, true, true, false, false, false, false] rfl rfl (one_of HT_.out kr_) (by decide) (fun K hK => ?_)
       refine goes_ Tryd.func19 kr_ rfl #[.agg #[.int .i64 t836, .string t837, .string t838, .slice Ao36 t839.length co36, .slice Ao38 t842.length co38], .agg #[.int .i64 t845, .string t846, .string t847, .slice Ao43 t848.length co43, .slice Ao45 t851.length co45]] (by rfl) rfl rfl rl_ ?_
       with_reducible refine (rule_Order.calls t836 t837 t838 _ _ t839 _ _ t842 t845 t846 t847 _ _ t848 _ _ t851 t855 _ ?side1 ?side2 ?side3 ?side4 ?side5 ?side6 ?side7 ?side8 A8.out).mono ?_
       (case side1 => exact C_ (Kd.R_reads' HO841.out).2.2)
       (case side2 => exact (Kd.R_reads' HO841.out).2.1)
       (case side3 => exact C_ (Kd.R_reads' HO844.out).2.2)
       (case side4 => exact (Kd.R_reads' HO844.out).2.1)
       (case side5 => exact C_ (Kd.R_reads' HO850.out).2.2)
       (case side6 => exact (Kd.R_reads' HO850.out).2.1)
       (case side7 => exact C_ (Kd.R_reads' HO853.out).2.2)
       (case side8 => exact (Kd.R_reads' HO853.out).2.1)
       rintro e w50 ⟨rfl, hb⟩
       refine ⟨_, rfl, ?_⟩
       have n0_ := am_ (Kd.R_below (R_ HO832.out) hb)
       have n1_ := am_ (Kd.R_below (R_ HO835.out) hb)
       have n2_ := am_ (Kd.R_below (R_ HO841.out) hb)
       have n3_ := am_ (Kd.R_below (R_ HO844.out) hb)
       have n4_ := am_ (Kd.R_below (R_ HO850.out) hb)
       have n5_ := am_ (Kd.R_below (R_ HO853.out) hb)
       have n6_ := am_ (blk_below (g := gb824) (o := .cells #[.int .i64 t827, .string t828, .string t829, .slice Ao29 t830.length co29, .slice Ao31 t833.length co31] 26 (0, 0)) (blk_ BK824.out) hb)
       have n7_ := am_ (blk_below (g := gb825) (o := .cells #[.int .i64 t836, .string t837, .string t838, .slice Ao36 t839.length co36, .slice Ao38 t842.length co38] 26 (0, 0)) (blk_ BK825.out) hb)
       have n8_ := am_ (blk_below (g := gb826) (o := .cells #[.int .i64 t845, .string t846, .string t847, .slice Ao43 t848.length co43, .slice Ao45 t851.length co45] 26 (0, 0)) (blk_ BK826.out) hb)
       have n9_ := am_ (below_step (bel_ HB.out) hb)
       clear HO832 HO835 HO841 HO844 HO850 HO853 BK824 BK825 BK826 HB
       have HO832 := n0_
       have HO835 := n1_
       have HO841 := n2_
       have HO844 := n3_
       have HO850 := n4_
       have HO853 := n5_
       have BK824 := n6_
       have BK825 := n7_
       have BK826 := n8_
       have HB := n9_
       clear n0_ n1_ n2_ n3_ n4_ n5_ n6_ n7_ n8_ n9_
       (try clear hb)
       (try clear hb2)
       (try clear hk)
       (try clear hi)
       refine hK.out _ _ ⟨(blk_cell BK824.out 0).trans rfl, (blk_cell BK824.out 1).trans rfl, (blk_cell BK824.out 2).trans rfl, (blk_cell BK824.out 3).trans rfl, (blk_cell BK824.out 4).trans rfl, (blk_cell BK825.out 0).trans rfl, (blk_cell BK825.out 1).trans rfl, (blk_cell BK825.out 2).trans rfl, (blk_cell BK825.out 3).trans rfl, (blk_cell BK825.out 4).trans rfl, (blk_cell BK826.out 0).trans rfl, (blk_cell BK826.out 1).trans rfl, (blk_cell BK826.out 2).trans rfl, (blk_cell BK826.out 3).trans rfl, (blk_cell BK826.out 4).trans rfl⟩ (fun hHeld => ?_)
       clear hK K
       refine norm_ (a' := ?_) ?_ ?_
       rotate_left
       ·show Act.put _ (some 21) _ = _
        simp only [Act.put, sx_, s0_, s1_, i64_w, i32_w]
        rfl
       refine one_ (i := 8) (N := some 24) #[true, true, true, true, true, true, true, true, true, false, false, false] rfl rfl (one_of HT_.out kr_) (by decide) (fun K hK => ?_)
       refine goes_ Tryd.func19 kr_ rfl #[.agg #[.int .i64 t827, .string t828, .string t829, .slice Ao29 t830.length co29, .slice Ao31 t833.length co31], .agg #[.int .i64 t845, .string t846, .string t847, .slice Ao43 t848.length co43, .slice Ao45 t851.length co45]] (by rfl) rfl rfl rl_ ?_
       with_reducible refine (rule_Order.calls t827 t828 t829 _ _ t830 _ _ t833 t845 t846 t847 _ _ t848 _ _ t851 t856 _ ?side1 ?side2 ?side3 ?side4 ?side5 ?side6 ?side7 ?side8 A9.out).mono ?_
       (case side1 => exact C_ (Kd.R_reads' HO832.out).2.2)
       (case side2 => exact (Kd.R_reads' HO832.out).2.1)
       (case side3 => exact C_ (Kd.R_reads' HO835.out).2.2)
       (case side4 => exact (Kd.R_reads' HO835.out).2.1)
       (case side5 => exact C_ (Kd.R_reads' HO850.out).2.2)
       (case side6 => exact (Kd.R_reads' HO850.out).2.1)
       (case side7 => exact C_ (Kd.R_reads' HO853.out).2.2)
       (case side8 => exact (Kd.R_reads' HO853.out).2.1)
       rintro e w51 ⟨rfl, hb⟩
       refine ⟨_, rfl, ?_⟩
       have n0_ := am_ (Kd.R_below (R_ HO832.out) hb)
       have n1_ := am_ (Kd.R_below (R_ HO835.out) hb)
       have n2_ := am_ (Kd.R_below (R_ HO841.out) hb)
       have n3_ := am_ (Kd.R_below (R_ HO844.out) hb)
       have n4_ := am_ (Kd.R_below (R_ HO850.out) hb)
       have n5_ := am_ (Kd.R_below (R_ HO853.out) hb)
       have n6_ := am_ (blk_below (g := gb824) (o := .cells #[.int .i64 t827, .string t828, .string t829, .slice Ao29 t830.length co29, .slice Ao31 t833.length co31] 26 (0, 0)) (blk_ BK824.out) hb)
       have n7_ := am_ (blk_below (g := gb825) (o := .cells #[.int .i64 t836, .string t837, .string t838, .slice Ao36 t839.length co36, .slice Ao38 t842.length co38] 26 (0, 0)) (blk_ BK825.out) hb)
       have n8_ := am_ (blk_below (g := gb826) (o := .cells #[.int .i64 t845, .string t846, .string t847, .slice Ao43 t848.length co43, .slice Ao45 t851.length co45] 26 (0, 0)) (blk_ BK826.out) hb)
       have n9_ := am_ (below_step (bel_ HB.out) hb)
       clear HO832 HO835 HO841 HO844 HO850 HO853 BK824 BK825 BK826 HB
       have HO832 := n0_
       have HO835 := n1_
       have HO841 := n2_
       have HO844 := n3_
       have HO850 := n4_
       have HO853 := n5_
       have BK824 := n6_
       have BK825 := n7_
       have BK826 := n8_
       have HB := n9_
       clear n0_ n1_ n2_ n3_ n4_ n5_ n6_ n7_ n8_ n9_
       (try clear hb)
       (try clear hb2)
       (try clear hk)
       (try clear hi)
       refine hK.out _ _ ⟨(blk_cell BK824.out 0).trans rfl, (blk_cell BK824.out 1).trans rfl, (blk_cell BK824.out 2).trans rfl, (blk_cell BK824.out 3).trans rfl, (blk_cell BK824.out 4).trans rfl, (blk_cell BK825.out 0).trans rfl, (blk_cell BK825.out 1).trans rfl, (blk_cell BK825.out 2).trans rfl, (blk_cell BK825.out 3).trans rfl, (blk_cell BK825.out 4).trans rfl, (blk_cell BK826.out 0).trans rfl, (blk_cell BK826.out 1).trans rfl, (blk_cell BK826.out 2).trans rfl, (blk_cell BK826.out 3).trans rfl, (blk_cell BK826.out 4).trans rfl⟩ (fun hHeld => ?_)
       clear hK K
       refine norm_ (a' := ?_) ?_ ?_
       rotate_left
       ·show Act.put _ (some 24) _ = _
        simp only [Act.put, sx_, s0_, s1_, i64_w, i32_w]
        rfl
       refine pure_ (i := 9) (N := some 7) (v := ?_) (a' := ?_) #[true, true, true, true, true, true, true, true, true, true, false, false] rfl rfl (any_of HT_.out kr_) (fun _ _ _ h => h) (Or.inl ⟨by rfl, ?_⟩) ?_ ?_
       rotate_left
       ·intro w'
        go_simp
        with_reducible rfl
       rotate_left
       ·simp only [Act.put, sx_, s0_, s1_, i64_w, i32_w]
        rfl
       refine pure_ (i := 10) (N := some 8) (v := ?_) (a' := ?_) #[true, true, true, true, true, true, true, true, true, true, true, false] rfl rfl (any_of HT_.out kr_) (fun _ _ _ h => h) (Or.inl ⟨by rfl, ?_⟩) ?_ ?_
       rotate_left
       ·intro w'
        go_simp
        with_reducible rfl
       rotate_left
       ·simp only [Act.put, sx_, s0_, s1_, i64_w, i32_w]
        rfl
       refine pure_ (i := 11) (N := some 9) (v := ?_) (a' := ?_) #[true, true, true, true, true, true, true, true, true, true, true, true] rfl rfl (any_of HT_.out kr_) (fun _ _ _ h => h) (Or.inl ⟨by rfl, ?_⟩) ?_ ?_
       rotate_left
       ·intro w'
        go_simp
        with_reducible rfl
       rotate_left
       ·simp only [Act.put, sx_, s0_, s1_, i64_w, i32_w]
        rfl
       refine done_ (done_of HT_.out kr_) ?_
       have hnb52 := NB825_824.out
       have hnc52 := NB824_825.out
       have hnb53 := NB825_826.out
       have hnc53 := NB826_825.out
       have hcz54_0 : w51.cell? ⟨gb825, 0, none⟩ = some (.int .i64 t836) := (blk_cell BK825.out 0).trans rfl
       have hcz54_1 : w51.cell? ⟨gb825, 1, none⟩ = some (.string t837) := (blk_cell BK825.out 1).trans rfl
       have hcz54_2 : w51.cell? ⟨gb825, 2, none⟩ = some (.string t838) := (blk_cell BK825.out 2).trans rfl
       have hcz54_3 : w51.cell? ⟨gb825, 3, none⟩ = some (.slice Ao36 t839.length co36) := (blk_cell BK825.out 3).trans rfl
       have hcz54_4 : w51.cell? ⟨gb825, 4, none⟩ = some (.slice Ao38 t842.length co38) := (blk_cell BK825.out 4).trans rfl
       have hfz54_0 := blk_frozen BK825.out 0
       have hfz54_1 := blk_frozen BK825.out 1
       have hfz54_2 := blk_frozen BK825.out 2
       have hfz54_3 := blk_frozen BK825.out 3
       have hfz54_4 := blk_frozen BK825.out 4
       have hnb55 := NB824_826.out
       have hnc55 := NB826_824.out
       have hcz56_0 : w51.cell? ⟨gb824, 0, none⟩ = some (.int .i64 t827) := (blk_cell BK824.out 0).trans rfl
       have hcz56_1 : w51.cell? ⟨gb824, 1, none⟩ = some (.string t828) := (blk_cell BK824.out 1).trans rfl
       have hcz56_2 : w51.cell? ⟨gb824, 2, none⟩ = some (.string t829) := (blk_cell BK824.out 2).trans rfl
       have hcz56_3 : w51.cell? ⟨gb824, 3, none⟩ = some (.slice Ao29 t830.length co29) := (blk_cell BK824.out 3).trans rfl
       have hcz56_4 : w51.cell? ⟨gb824, 4, none⟩ = some (.slice Ao31 t833.length co31) := (blk_cell BK824.out 4).trans rfl
       have hfz56_0 := blk_frozen BK824.out 0
       have hfz56_1 := blk_frozen BK824.out 1
       have hfz56_2 := blk_frozen BK824.out 2
       have hfz56_3 := blk_frozen BK824.out 3
       have hfz56_4 := blk_frozen BK824.out 4
       try go_wp2_with (first | ((with_reducible refine gate_callee (f := 19) rfl ?_); refine goesL_ (some 27) rfl rfl Tryd.func19 kr_ rfl #[.agg #[.int .i64 t836, .string t837, .string t838, .slice Ao36 t839.length co36, .slice Ao38 t842.length co38], .agg #[.int .i64 t827, .string t828, .string t829, .slice Ao29 t830.length co29, .slice Ao31 t833.length co31]] rfl rl_ ?_; (with_reducible refine (rule_Order.calls t836 t837 t838 _ _ t839 _ _ t842 t827 t828 t829 _ _ t830 _ _ t833 t857 _ ?side1 ?side2 ?side3 ?side4 ?side5 ?side6 ?side7 ?side8 A10.out).mono ?_); (case side1 => exact C_ (Kd.R_reads' HO841.out).2.2); (case side2 => exact (Kd.R_reads' HO841.out).2.1); (case side3 => exact C_ (Kd.R_reads' HO844.out).2.2); (case side4 => exact (Kd.R_reads' HO844.out).2.1); (case side5 => exact C_ (Kd.R_reads' HO832.out).2.2); (case side6 => exact (Kd.R_reads' HO832.out).2.1); (case side7 => exact C_ (Kd.R_reads' HO835.out).2.2); (case side8 => exact (Kd.R_reads' HO835.out).2.1); rintro e w57 ⟨rfl, hb⟩; refine ⟨_, rfl, ?_⟩; have n0_ := am_ (Kd.R_below (R_ HO832.out) hb); have n1_ := am_ (Kd.R_below (R_ HO835.out) hb); have n2_ := am_ (Kd.R_below (R_ HO841.out) hb); have n3_ := am_ (Kd.R_below (R_ HO844.out) hb); have n4_ := am_ (Kd.R_below (R_ HO850.out) hb); have n5_ := am_ (Kd.R_below (R_ HO853.out) hb); have n6_ := am_ (blk_below (g := gb824) (o := .cells #[.int .i64 t827, .string t828, .string t829, .slice Ao29 t830.length co29, .slice Ao31 t833.length co31] 26 (0, 0)) (blk_ BK824.out) hb); have n7_ := am_ (blk_below (g := gb825) (o := .cells #[.int .i64 t836, .string t837, .string t838, .slice Ao36 t839.length co36, .slice Ao38 t842.length co38] 26 (0, 0)) (blk_ BK825.out) hb); have n8_ := am_ (blk_below (g := gb826) (o := .cells #[.int .i64 t845, .string t846, .string t847, .slice Ao43 t848.length co43, .slice Ao45 t851.length co45] 26 (0, 0)) (blk_ BK826.out) hb); have n9_ := am_ (below_step (bel_ HB.out) hb); clear HO832 HO835 HO841 HO844 HO850 HO853 BK824 BK825 BK826 HB; have HO832 := n0_; have HO835 := n1_; have HO841 := n2_; have HO844 := n3_; have HO850 := n4_; have HO853 := n5_; have BK824 := n6_; have BK825 := n7_; have BK826 := n8_; have HB := n9_; clear n0_ n1_ n2_ n3_ n4_ n5_ n6_ n7_ n8_ n9_; (try clear hb); (try clear hb2); (try clear hk); (try clear hi); have hcz58_0 : w57.cell? ⟨gb824, 0, none⟩ = some (.int .i64 t827) := (blk_cell BK824.out 0).trans rfl; have hcz58_1 : w57.cell? ⟨gb824, 1, none⟩ = some (.string t828) := (blk_cell BK824.out 1).trans rfl; have hcz58_2 : w57.cell? ⟨gb824, 2, none⟩ = some (.string t829) := (blk_cell BK824.out 2).trans rfl; have hcz58_3 : w57.cell? ⟨gb824, 3, none⟩ = some (.slice Ao29 t830.length co29) := (blk_cell BK824.out 3).trans rfl; have hcz58_4 : w57.cell? ⟨gb824, 4, none⟩ = some (.slice Ao31 t833.length co31) := (blk_cell BK824.out 4).trans rfl; have hfz58_0 := blk_frozen BK824.out 0; have hfz58_1 := blk_frozen BK824.out 1; have hfz58_2 := blk_frozen BK824.out 2; have hfz58_3 := blk_frozen BK824.out 3; have hfz58_4 := blk_frozen BK824.out 4) | (go_at_call 19; (with_reducible refine (rule_Order.calls t827 t828 t829 _ _ t830 _ _ t833 t827 t828 t829 _ _ t830 _ _ t833 t858 _ ?side1 ?side2 ?side3 ?side4 ?side5 ?side6 ?side7 ?side8 A12.out).mono ?_); (case side1 => exact C_ (Kd.R_reads' HO832.out).2.2); (case side2 => exact (Kd.R_reads' HO832.out).2.1); (case side3 => exact C_ (Kd.R_reads' HO835.out).2.2); (case side4 => exact (Kd.R_reads' HO835.out).2.1); (case side5 => exact C_ (Kd.R_reads' HO832.out).2.2); (case side6 => exact (Kd.R_reads' HO832.out).2.1); (case side7 => exact C_ (Kd.R_reads' HO835.out).2.2); (case side8 => exact (Kd.R_reads' HO835.out).2.1); rintro e w59 ⟨rfl, hb⟩; have n0_ := am_ (Kd.R_below (R_ HO832.out) hb); have n1_ := am_ (Kd.R_below (R_ HO835.out) hb); have n2_ := am_ (Kd.R_below (R_ HO841.out) hb); have n3_ := am_ (Kd.R_below (R_ HO844.out) hb); have n4_ := am_ (Kd.R_below (R_ HO850.out) hb); have n5_ := am_ (Kd.R_below (R_ HO853.out) hb); have n6_ := am_ (blk_below (g := gb824) (o := .cells #[.int .i64 t827, .string t828, .string t829, .slice Ao29 t830.length co29, .slice Ao31 t833.length co31] 26 (0, 0)) (blk_ BK824.out) hb); have n7_ := am_ (blk_below (g := gb825) (o := .cells #[.int .i64 t836, .string t837, .string t838, .slice Ao36 t839.length co36, .slice Ao38 t842.length co38] 26 (0, 0)) (blk_ BK825.out) hb); have n8_ := am_ (blk_below (g := gb826) (o := .cells #[.int .i64 t845, .string t846, .string t847, .slice Ao43 t848.length co43, .slice Ao45 t851.length co45] 26 (0, 0)) (blk_ BK826.out) hb); have n9_ := am_ (below_step (bel_ HB.out) hb); clear HO832 HO835 HO841 HO844 HO850 HO853 BK824 BK825 BK826 HB; have HO832 := n0_; have HO835 := n1_; have HO841 := n2_; have HO844 := n3_; have HO850 := n4_; have HO853 := n5_; have BK824 := n6_; have BK825 := n7_; have BK826 := n8_; have HB := n9_; clear n0_ n1_ n2_ n3_ n4_ n5_ n6_ n7_ n8_ n9_; (try clear hb); (try clear hb2); (try clear hk); (try clear hi)) | ((with_reducible refine gate_callee (f := 18) rfl ?_); refine goesL_ (some 73) rfl rfl Tryd.func18 kr_ rfl #[] rfl rl_ ?_; (with_reducible refine (tolllaw06_awake.calls  t867 _ A18.out).mono ?_); rintro e w60 ⟨rfl, hb⟩; refine ⟨_, rfl, ?_⟩; have n0_ := am_ (Kd.R_below (R_ HO832.out) hb); have n1_ := am_ (Kd.R_below (R_ HO835.out) hb); have n2_ := am_ (Kd.R_below (R_ HO841.out) hb); have n3_ := am_ (Kd.R_below (R_ HO844.out) hb); have n4_ := am_ (Kd.R_below (R_ HO850.out) hb); have n5_ := am_ (Kd.R_below (R_ HO853.out) hb); have n6_ := am_ (blk_below (g := gb824) (o := .cells #[.int .i64 t827, .string t828, .string t829, .slice Ao29 t830.length co29, .slice Ao31 t833.length co31] 26 (0, 0)) (blk_ BK824.out) hb); have n7_ := am_ (blk_below (g := gb825) (o := .cells #[.int .i64 t836, .string t837, .string t838, .slice Ao36 t839.length co36, .slice Ao38 t842.length co38] 26 (0, 0)) (blk_ BK825.out) hb); have n8_ := am_ (blk_below (g := gb826) (o := .cells #[.int .i64 t845, .string t846, .string t847, .slice Ao43 t848.length co43, .slice Ao45 t851.length co45] 26 (0, 0)) (blk_ BK826.out) hb); have n9_ := am_ (below_step (bel_ HB.out) hb); clear HO832 HO835 HO841 HO844 HO850 HO853 BK824 BK825 BK826 HB; have HO832 := n0_; have HO835 := n1_; have HO841 := n2_; have HO844 := n3_; have HO850 := n4_; have HO853 := n5_; have BK824 := n6_; have BK825 := n7_; have BK826 := n8_; have HB := n9_; clear n0_ n1_ n2_ n3_ n4_ n5_ n6_ n7_ n8_ n9_; (try clear hb); (try clear hb2); (try clear hk); (try clear hi)))
       go_ret
       exact ⟨fi_, bel_ HB.out⟩
     ·rw [if_neg c16] at H
      have c16b0 : decide (t854 < 0) = false := decide_eq_false c16
      clear c16
      by_cases c61 : t854 = 0
      ·rw [if_pos c61] at H
       have c61b0 : (t854 == 0) = true := beq_iff_eq.mpr c61
       have c61b1 : (t854 != 0) = false := bne_eq_false_iff_eq.mpr c61
       clear c61
       by_cases c62 : t855 = 0
       ·rw [if_pos c62] at H
        exact absurd H (by simp)
       ·rw [if_neg c62] at H
        have c62b0 : (t855 == 0) = false := beq_eq_false_iff_ne.mpr c62
        have c62b1 : (t855 != 0) = true := bne_iff_ne.mpr c62
        replace H := Option.bind_eq_some_iff.mp H
        obtain ⟨t869, A630, H⟩ := H
        replace H : (some t869) = some r := H
        have A63 := Aside0.mk A630
        clear A630
        obtain rfl := Option.some.inj H
        go_enter Tryd.func4, Tryd.ntmps4
        try go_wp2_with (first | ((with_reducible refine gate_dst (N := 3) rfl ?_); refine box_event ?hg (N := 3) ?hd (cs := #[.int .i64 a0_0, .string a0_1, .string a0_2, .slice A0_3 l0_3.length c0_3, .slice A0_4 l0_4.length c0_4]) (t := 26) ?hr ?_; (case hd => rfl); (case hg => rfl); (case hr => first | (go_simp; done) | (go_simp; rfl)); intro gb824 hg w64 hbox hb; have n0_ := am_ (below_step (bel_ HB.out) hb); have n1_ := am_ (hbox); have n2_ := am_ ((by rw [hg]; exact (below_size (bel_ HB.out)) : w.heap.size ≤ gb824)); have n3_ := am_ ((by rw [hg]; exact (below_size (bel_ HB.out)) : w.heap.size ≤ gb824)); clear HB; have HB := n0_; have BK824 := n1_; have GW824 := n2_; have GE824 := n3_; clear n0_ n1_ n2_ n3_ hb hbox hg) | ((with_reducible refine gate_dst (N := 4) rfl ?_); refine box_event ?hg (N := 4) ?hd (cs := #[.int .i64 a1_0, .string a1_1, .string a1_2, .slice A1_3 l1_3.length c1_3, .slice A1_4 l1_4.length c1_4]) (t := 26) ?hr ?_; (case hd => rfl); (case hg => rfl); (case hr => first | (go_simp; done) | (go_simp; rfl)); intro gb825 hg w65 hbox hb; have n0_ := am_ (blk_below (g := gb824) (o := .cells #[.int .i64 a0_0, .string a0_1, .string a0_2, .slice A0_3 l0_3.length c0_3, .slice A0_4 l0_4.length c0_4] 26 (0, 0)) (blk_ BK824.out) hb); have n1_ := am_ (below_step (bel_ HB.out) hb); have n2_ := am_ (hbox); have n3_ := am_ ((by rw [hg]; exact (below_size (bel_ HB.out)) : w.heap.size ≤ gb825)); have n4_ := am_ ((by rw [hg]; exact (below_size (bel_ HB.out)) : w.heap.size ≤ gb825)); have n5_ := am_ ((by rw [hg]; exact Nat.ne_of_lt (blk_lt (g := gb824) (o := .cells #[.int .i64 a0_0, .string a0_1, .string a0_2, .slice A0_3 l0_3.length c0_3, .slice A0_4 l0_4.length c0_4] 26 (0, 0)) (blk_ BK824.out)) : gb824 ≠ gb825)); have n6_ := am_ ((by rw [hg]; exact Nat.ne_of_gt (blk_lt (g := gb824) (o := .cells #[.int .i64 a0_0, .string a0_1, .string a0_2, .slice A0_3 l0_3.length c0_3, .slice A0_4 l0_4.length c0_4] 26 (0, 0)) (blk_ BK824.out)) : gb825 ≠ gb824)); clear BK824 HB; have BK824 := n0_; have HB := n1_; have BK825 := n2_; have GW825 := n3_; have GE825 := n4_; have NB824_825 := n5_; have NB825_824 := n6_; clear n0_ n1_ n2_ n3_ n4_ n5_ n6_ hb hbox hg) | ((with_reducible refine gate_dst (N := 5) rfl ?_); refine box_event ?hg (N := 5) ?hd (cs := #[.int .i64 a2_0, .string a2_1, .string a2_2, .slice A2_3 l2_3.length c2_3, .slice A2_4 l2_4.length c2_4]) (t := 26) ?hr ?_; (case hd => rfl); (case hg => rfl); (case hr => first | (go_simp; done) | (go_simp; rfl)); intro gb826 hg w66 hbox hb; have n0_ := am_ (blk_below (g := gb824) (o := .cells #[.int .i64 a0_0, .string a0_1, .string a0_2, .slice A0_3 l0_3.length c0_3, .slice A0_4 l0_4.length c0_4] 26 (0, 0)) (blk_ BK824.out) hb); have n1_ := am_ (blk_below (g := gb825) (o := .cells #[.int .i64 a1_0, .string a1_1, .string a1_2, .slice A1_3 l1_3.length c1_3, .slice A1_4 l1_4.length c1_4] 26 (0, 0)) (blk_ BK825.out) hb); have n2_ := am_ (below_step (bel_ HB.out) hb); have n3_ := am_ (hbox); have n4_ := am_ ((by rw [hg]; exact (below_size (bel_ HB.out)) : w.heap.size ≤ gb826)); have n5_ := am_ ((by rw [hg]; exact (below_size (bel_ HB.out)) : w.heap.size ≤ gb826)); have n6_ := am_ ((by rw [hg]; exact Nat.ne_of_lt (blk_lt (g := gb824) (o := .cells #[.int .i64 a0_0, .string a0_1, .string a0_2, .slice A0_3 l0_3.length c0_3, .slice A0_4 l0_4.length c0_4] 26 (0, 0)) (blk_ BK824.out)) : gb824 ≠ gb826)); have n7_ := am_ ((by rw [hg]; exact Nat.ne_of_gt (blk_lt (g := gb824) (o := .cells #[.int .i64 a0_0, .string a0_1, .string a0_2, .slice A0_3 l0_3.length c0_3, .slice A0_4 l0_4.length c0_4] 26 (0, 0)) (blk_ BK824.out)) : gb826 ≠ gb824)); have n8_ := am_ ((by rw [hg]; exact Nat.ne_of_lt (blk_lt (g := gb825) (o := .cells #[.int .i64 a1_0, .string a1_1, .string a1_2, .slice A1_3 l1_3.length c1_3, .slice A1_4 l1_4.length c1_4] 26 (0, 0)) (blk_ BK825.out)) : gb825 ≠ gb826)); have n9_ := am_ ((by rw [hg]; exact Nat.ne_of_gt (blk_lt (g := gb825) (o := .cells #[.int .i64 a1_0, .string a1_1, .string a1_2, .slice A1_3 l1_3.length c1_3, .slice A1_4 l1_4.length c1_4] 26 (0, 0)) (blk_ BK825.out)) : gb826 ≠ gb825)); clear BK824 BK825 HB; have BK824 := n0_; have BK825 := n1_; have HB := n2_; have BK826 := n3_; have GW826 := n4_; have GE826 := n5_; have NB824_826 := n6_; have NB826_824 := n7_; have NB825_826 := n8_; have NB826_825 := n9_; clear n0_ n1_ n2_ n3_ n4_ n5_ n6_ n7_ n8_ n9_ hb hbox hg))
        have n0_ := am_ (blk_drew BK824.out)
        have n1_ := am_ (blk_drew BK825.out)
        have n2_ := am_ (blk_drew BK826.out)
        have n3_ := am_ (below_drew1 HB.out)
        clear BK824 BK825 BK826 HB
        have BK824 := n0_
        have BK825 := n1_
        have BK826 := n2_
        have HB := n3_
        clear n0_ n1_ n2_ n3_
        refine start_ (n := 9) (S := fun w' => w'.cell? ⟨gb824, 0, none⟩ = some (.int .i64 a0_0) ∧ w'.cell? ⟨gb824, 1, none⟩ = some (.string a0_1) ∧ w'.cell? ⟨gb824, 2, none⟩ = some (.string a0_2) ∧ w'.cell? ⟨gb824, 3, none⟩ = some (.slice A0_3 l0_3.length c0_3) ∧ w'.cell? ⟨gb824, 4, none⟩ = some (.slice A0_4 l0_4.length c0_4) ∧ w'.cell? ⟨gb825, 0, none⟩ = some (.int .i64 a1_0) ∧ w'.cell? ⟨gb825, 1, none⟩ = some (.string a1_1) ∧ w'.cell? ⟨gb825, 2, none⟩ = some (.string a1_2) ∧ w'.cell? ⟨gb825, 3, none⟩ = some (.slice A1_3 l1_3.length c1_3) ∧ w'.cell? ⟨gb825, 4, none⟩ = some (.slice A1_4 l1_4.length c1_4) ∧ w'.cell? ⟨gb826, 0, none⟩ = some (.int .i64 a2_0) ∧ w'.cell? ⟨gb826, 1, none⟩ = some (.string a2_1) ∧ w'.cell? ⟨gb826, 2, none⟩ = some (.string a2_2) ∧ w'.cell? ⟨gb826, 3, none⟩ = some (.slice A2_3 l2_3.length c2_3) ∧ w'.cell? ⟨gb826, 4, none⟩ = some (.slice A2_4 l2_4.length c2_4)) (ds := [6, 7, 8]) #[false, false, false, false, false, false, false, false, false] kr_ rfl rfl ⟨(blk_cell BK824.out 0).trans rfl, (blk_cell BK824.out 1).trans rfl, (blk_cell BK824.out 2).trans rfl, (blk_cell BK824.out 3).trans rfl, (blk_cell BK824.out 4).trans rfl, (blk_cell BK825.out 0).trans rfl, (blk_cell BK825.out 1).trans rfl, (blk_cell BK825.out 2).trans rfl, (blk_cell BK825.out 3).trans rfl, (blk_cell BK825.out 4).trans rfl, (blk_cell BK826.out 0).trans rfl, (blk_cell BK826.out 1).trans rfl, (blk_cell BK826.out 2).trans rfl, (blk_cell BK826.out 3).trans rfl, (blk_cell BK826.out 4).trans rfl⟩ (fun hHeld => ?_); refine with_tabW tolllaw06_RuleRanks_g3.tab1 tolllaw06_RuleRanks_g3.bits1 (fun HT_ HW_ => ?_)
        generalize w66.drew = w67 at BK824 BK825 BK826 HB hHeld ⊢
        refine take_ (i := 0) (N := some 10) (v := ?_) (a' := ?_) #[true, false, false, false, false, false, false, false, false] rfl rfl (take_ofW HT_.out HW_.out kr_) (fun _ _ _ h => h) (Or.inl ⟨by rfl, ?_⟩) hHeld ?_ ?_
        rotate_left
        ·rintro w' ⟨s0, s1, s2, s3, s4, s5, s6, s7, s8, s9, s10, s11, s12, s13, s14⟩
         go_simp
         with_reducible rfl
        rotate_left
        ·simp only [Act.put, sx_, s0_, s1_, i64_w, i32_w]
         rfl
        refine take_ (i := 2) (N := some 12) (v := ?_) (a' := ?_) #[true, false, true, false, false, false, false, false, false] rfl rfl (take_ofW HT_.out HW_.out kr_) (fun _ _ _ h => h) (Or.inl ⟨by rfl, ?_⟩) hHeld ?_ ?_
        rotate_left
        ·rintro w' ⟨s0, s1, s2, s3, s4, s5, s6, s7, s8, s9, s10, s11, s12, s13, s14⟩
         go_simp
         with_reducible rfl
        rotate_left
        ·simp only [Act.put, sx_, s0_, s1_, i64_w, i32_w]
         rfl
        refine take_ (i := 4) (N := some 14) (v := ?_) (a' := ?_) #[true, false, true, false, true, false, false, false, false] rfl rfl (take_ofW HT_.out HW_.out kr_) (fun _ _ _ h => h) (Or.inl ⟨by rfl, ?_⟩) hHeld ?_ ?_
        rotate_left
        ·rintro w' ⟨s0, s1, s2, s3, s4, s5, s6, s7, s8, s9, s10, s11, s12, s13, s14⟩
         go_simp
         with_reducible rfl
        rotate_left
        ·simp only [Act.put, sx_, s0_, s1_, i64_w, i32_w]
         rfl
        refine one_ (i := 1) (N := some 11) #[true, true, true, false, true, false, false, false, false] rfl rfl (one_of HT_.out kr_) (by decide) (fun K hK => ?_)
        refine goes_ Tryd.func9 kr_ rfl #[.agg #[.int .i64 a0_0, .string a0_1, .string a0_2, .slice A0_3 l0_3.length c0_3, .slice A0_4 l0_4.length c0_4]] (by rfl) rfl rfl rl_ ?_
        with_reducible refine (tolllaw06_Few.calls k a0_0 a0_1 a0_2 _ _ l0_3 _ _ l0_4 t827 t828 t829 t830 t833 _ ?side1 ?side2 ?side3 ?side4 A4.out).mono ?_
        (case side1 => exact C_ (Kd.C_below HR0_3.out HB.out))
        (case side2 => exact HC0_3.out)
        (case side3 => exact C_ (Kd.C_below HR0_4.out HB.out))
        (case side4 => exact HC0_4.out)
        rintro e w68 ⟨v831, v834, rfl, ho0, ho1, hb⟩
        refine ⟨_, rfl, ?_⟩
        have n0_ := am_ (Kd.R_lower ho0 (below_size (bel_ HB.out)))
        have n1_ := am_ (Kd.R_lower ho1 (below_size (bel_ HB.out)))
        have n2_ := am_ (blk_below (g := gb824) (o := .cells #[.int .i64 a0_0, .string a0_1, .string a0_2, .slice A0_3 l0_3.length c0_3, .slice A0_4 l0_4.length c0_4] 26 (0, 0)) (blk_ BK824.out) hb)
        have n3_ := am_ (blk_below (g := gb825) (o := .cells #[.int .i64 a1_0, .string a1_1, .string a1_2, .slice A1_3 l1_3.length c1_3, .slice A1_4 l1_4.length c1_4] 26 (0, 0)) (blk_ BK825.out) hb)
        have n4_ := am_ (blk_below (g := gb826) (o := .cells #[.int .i64 a2_0, .string a2_1, .string a2_2, .slice A2_3 l2_3.length c2_3, .slice A2_4 l2_4.length c2_4] 26 (0, 0)) (blk_ BK826.out) hb)
        have n5_ := am_ (below_step (bel_ HB.out) hb)
        clear BK824 BK825 BK826 HB
        have HO832 := n0_
        have HO835 := n1_
        have BK824 := n2_
        have BK825 := n3_
        have BK826 := n4_
        have HB := n5_
        clear n0_ n1_ n2_ n3_ n4_ n5_
        (try clear hb)
        (try clear hb2)
        (try clear hk)
        (try clear hi)
        (try clear ho0)
        (try clear ho1)
        refine hK.out _ _ ⟨(blk_cell BK824.out 0).trans rfl, (blk_cell BK824.out 1).trans rfl, (blk_cell BK824.out 2).trans rfl, (blk_cell BK824.out 3).trans rfl, (blk_cell BK824.out 4).trans rfl, (blk_cell BK825.out 0).trans rfl, (blk_cell BK825.out 1).trans rfl, (blk_cell BK825.out 2).trans rfl, (blk_cell BK825.out 3).trans rfl, (blk_cell BK825.out 4).trans rfl, (blk_cell BK826.out 0).trans rfl, (blk_cell BK826.out 1).trans rfl, (blk_cell BK826.out 2).trans rfl, (blk_cell BK826.out 3).trans rfl, (blk_cell BK826.out 4).trans rfl⟩ (fun hHeld => ?_)
        clear hK K
        refine norm_ (a' := ?_) ?_ ?_
        rotate_left
        ·show Act.put _ (some 11) _ = _
         simp only [Act.put, sx_, s0_, s1_, i64_w, i32_w]
         rfl
        refine one_ (i := 3) (N := some 13) #[true, true, true, true, true, false, false, false, false] rfl rfl (one_of HT_.out kr_) (by decide) (fun K hK => ?_)
        refine goes_ Tryd.func9 kr_ rfl #[.agg #[.int .i64 a1_0, .string a1_1, .string a1_2, .slice A1_3 l1_3.length c1_3, .slice A1_4 l1_4.length c1_4]] (by rfl) rfl rfl rl_ ?_
        with_reducible refine (tolllaw06_Few.calls k a1_0 a1_1 a1_2 _ _ l1_3 _ _ l1_4 t836 t837 t838 t839 t842 _ ?side1 ?side2 ?side3 ?side4 A5.out).mono ?_
        (case side1 => exact C_ (Kd.C_below HR1_3.out HB.out))
        (case side2 => exact HC1_3.out)
        (case side3 => exact C_ (Kd.C_below HR1_4.out HB.out))
        (case side4 => exact HC1_4.out)
        rintro e w69 ⟨v840, v843, rfl, ho0, ho1, hb⟩
        refine ⟨_, rfl, ?_⟩
        have n0_ := am_ (Kd.R_mono (Kd.R_told (Kd.R_told (Kd.R_old (R_ HO832.out) hb) (Kd.R_base ho0)) (Kd.R_base ho1)) (fun _ h_ => h_.1))
        have n1_ := am_ (Kd.R_mono (Kd.R_told (Kd.R_told (Kd.R_old (R_ HO835.out) hb) (Kd.R_base ho0)) (Kd.R_base ho1)) (fun _ h_ => h_.1))
        have n2_ := am_ (Kd.R_lower (Kd.R_new' (Kd.R_new' ho0 (Kd.R_lt (R_ HO832.out))) (Kd.R_lt (R_ HO835.out))) (below_size (bel_ HB.out)))
        have n3_ := am_ (Kd.R_lower (Kd.R_new' (Kd.R_new' ho1 (Kd.R_lt (R_ HO832.out))) (Kd.R_lt (R_ HO835.out))) (below_size (bel_ HB.out)))
        have n4_ := am_ (blk_below (g := gb824) (o := .cells #[.int .i64 a0_0, .string a0_1, .string a0_2, .slice A0_3 l0_3.length c0_3, .slice A0_4 l0_4.length c0_4] 26 (0, 0)) (blk_ BK824.out) hb)
        have n5_ := am_ (blk_below (g := gb825) (o := .cells #[.int .i64 a1_0, .string a1_1, .string a1_2, .slice A1_3 l1_3.length c1_3, .slice A1_4 l1_4.length c1_4] 26 (0, 0)) (blk_ BK825.out) hb)
        have n6_ := am_ (blk_below (g := gb826) (o := .cells #[.int .i64 a2_0, .string a2_1, .string a2_2, .slice A2_3 l2_3.length c2_3, .slice A2_4 l2_4.length c2_4] 26 (0, 0)) (blk_ BK826.out) hb)
        have n7_ := am_ (below_step (bel_ HB.out) hb)
        clear HO832 HO835 BK824 BK825 BK826 HB
        have HO832 := n0_
        have HO835 := n1_
        have HO841 := n2_
        have HO844 := n3_
        have BK824 := n4_
        have BK825 := n5_
        have BK826 := n6_
        have HB := n7_
        clear n0_ n1_ n2_ n3_ n4_ n5_ n6_ n7_
        (try clear hb)
        (try clear hb2)
        (try clear hk)
        (try clear hi)
        (try clear ho0)
        (try clear ho1)
        refine hK.out _ _ ⟨(blk_cell BK824.out 0).trans rfl, (blk_cell BK824.out 1).trans rfl, (blk_cell BK824.out 2).trans rfl, (blk_cell BK824.out 3).trans rfl, (blk_cell BK824.out 4).trans rfl, (blk_cell BK825.out 0).trans rfl, (blk_cell BK825.out 1).trans rfl, (blk_cell BK825.out 2).trans rfl, (blk_cell BK825.out 3).trans rfl, (blk_cell BK825.out 4).trans rfl, (blk_cell BK826.out 0).trans rfl, (blk_cell BK826.out 1).trans rfl, (blk_cell BK826.out 2).trans rfl, (blk_cell BK826.out 3).trans rfl, (blk_cell BK826.out 4).trans rfl⟩ (fun hHeld => ?_)
        clear hK K
        refine norm_ (a' := ?_) ?_ ?_
        rotate_left
        ·show Act.put _ (some 13) _ = _
         simp only [Act.put, sx_, s0_, s1_, i64_w, i32_w]
         rfl
        refine one_ (i := 5) (N := some 15) #[true, true, true, true, true, true, false, false, false] rfl rfl (one_of HT_.out kr_) (by decide) (fun K hK => ?_)
        refine goes_ Tryd.func9 kr_ rfl #[.agg #[.int .i64 a2_0, .string a2_1, .string a2_2, .slice A2_3 l2_3.length c2_3, .slice A2_4 l2_4.length c2_4]] (by rfl) rfl rfl rl_ ?_
        with_reducible refine (tolllaw06_Few.calls k a2_0 a2_1 a2_2 _ _ l2_3 _ _ l2_4 t845 t846 t847 t848 t851 _ ?side1 ?side2 ?side3 ?side4 A6.out).mono ?_
        (case side1 => exact C_ (Kd.C_below HR2_3.out HB.out))
        (case side2 => exact HC2_3.out)
        (case side3 => exact C_ (Kd.C_below HR2_4.out HB.out))
        (case side4 => exact HC2_4.out)
        rintro e w70 ⟨v849, v852, rfl, ho0, ho1, hb⟩
        refine ⟨_, rfl, ?_⟩
        have n0_ := am_ (Kd.R_mono (Kd.R_told (Kd.R_told (Kd.R_old (R_ HO832.out) hb) (Kd.R_base ho0)) (Kd.R_base ho1)) (fun _ h_ => h_.1))
        have n1_ := am_ (Kd.R_mono (Kd.R_told (Kd.R_told (Kd.R_old (R_ HO835.out) hb) (Kd.R_base ho0)) (Kd.R_base ho1)) (fun _ h_ => h_.1))
        have n2_ := am_ (Kd.R_mono (Kd.R_told (Kd.R_told (Kd.R_old (R_ HO841.out) hb) (Kd.R_base ho0)) (Kd.R_base ho1)) (fun _ h_ => h_.1))
        have n3_ := am_ (Kd.R_mono (Kd.R_told (Kd.R_told (Kd.R_old (R_ HO844.out) hb) (Kd.R_base ho0)) (Kd.R_base ho1)) (fun _ h_ => h_.1))
        have n4_ := am_ (Kd.R_lower (Kd.R_new' (Kd.R_new' (Kd.R_new' (Kd.R_new' ho0 (Kd.R_lt (R_ HO832.out))) (Kd.R_lt (R_ HO835.out))) (Kd.R_lt (R_ HO841.out))) (Kd.R_lt (R_ HO844.out))) (below_size (bel_ HB.out)))
        have n5_ := am_ (Kd.R_lower (Kd.R_new' (Kd.R_new' (Kd.R_new' (Kd.R_new' ho1 (Kd.R_lt (R_ HO832.out))) (Kd.R_lt (R_ HO835.out))) (Kd.R_lt (R_ HO841.out))) (Kd.R_lt (R_ HO844.out))) (below_size (bel_ HB.out)))
        have n6_ := am_ (blk_below (g := gb824) (o := .cells #[.int .i64 a0_0, .string a0_1, .string a0_2, .slice A0_3 l0_3.length c0_3, .slice A0_4 l0_4.length c0_4] 26 (0, 0)) (blk_ BK824.out) hb)
        have n7_ := am_ (blk_below (g := gb825) (o := .cells #[.int .i64 a1_0, .string a1_1, .string a1_2, .slice A1_3 l1_3.length c1_3, .slice A1_4 l1_4.length c1_4] 26 (0, 0)) (blk_ BK825.out) hb)
        have n8_ := am_ (blk_below (g := gb826) (o := .cells #[.int .i64 a2_0, .string a2_1, .string a2_2, .slice A2_3 l2_3.length c2_3, .slice A2_4 l2_4.length c2_4] 26 (0, 0)) (blk_ BK826.out) hb)
        have n9_ := am_ (below_step (bel_ HB.out) hb)
        clear HO832 HO835 HO841 HO844 BK824 BK825 BK826 HB
        have HO832 := n0_
        have HO835 := n1_
        have HO841 := n2_
        have HO844 := n3_
        have HO850 := n4_
        have HO853 := n5_
        have BK824 := n6_
        have BK825 := n7_
        have BK826 := n8_
        have HB := n9_
        clear n0_ n1_ n2_ n3_ n4_ n5_ n6_ n7_ n8_ n9_
        (try clear hb)
        (try clear hb2)
        (try clear hk)
        (try clear hi)
        (try clear ho0)
        (try clear ho1)
        obtain ⟨Ao74, co74, eo74⟩ := Kd.R_slice HO832.out
        (first | subst eo74 | (injection eo74 with f1_ f2_ f3_; have f4_ := f1_.symm; have f5_ := f3_.symm; clear f1_ f2_ f3_; subst f4_; subst f5_))
        obtain ⟨Ao76, co76, eo76⟩ := Kd.R_slice HO835.out
        (first | subst eo76 | (injection eo76 with f1_ f2_ f3_; have f4_ := f1_.symm; have f5_ := f3_.symm; clear f1_ f2_ f3_; subst f4_; subst f5_))
        obtain ⟨Ao81, co81, eo81⟩ := Kd.R_slice HO841.out
        (first | subst eo81 | (injection eo81 with f1_ f2_ f3_; have f4_ := f1_.symm; have f5_ := f3_.symm; clear f1_ f2_ f3_; subst f4_; subst f5_))
        obtain ⟨Ao83, co83, eo83⟩ := Kd.R_slice HO844.out
        (first | subst eo83 | (injection eo83 with f1_ f2_ f3_; have f4_ := f1_.symm; have f5_ := f3_.symm; clear f1_ f2_ f3_; subst f4_; subst f5_))
        obtain ⟨Ao88, co88, eo88⟩ := Kd.R_slice HO850.out
        (first | subst eo88 | (injection eo88 with f1_ f2_ f3_; have f4_ := f1_.symm; have f5_ := f3_.symm; clear f1_ f2_ f3_; subst f4_; subst f5_))
        obtain ⟨Ao90, co90, eo90⟩ := Kd.R_slice HO853.out
        (first | subst eo90 | (injection eo90 with f1_ f2_ f3_; have f4_ := f1_.symm; have f5_ := f3_.symm; clear f1_ f2_ f3_; subst f4_; subst f5_))
        refine hK.out _ _ ⟨(blk_cell BK824.out 0).trans rfl, (blk_cell BK824.out 1).trans rfl, (blk_cell BK824.out 2).trans rfl, (blk_cell BK824.out 3).trans rfl, (blk_cell BK824.out 4).trans rfl, (blk_cell BK825.out 0).trans rfl, (blk_cell BK825.out 1).trans rfl, (blk_cell BK825.out 2).trans rfl, (blk_cell BK825.out 3).trans rfl, (blk_cell BK825.out 4).trans rfl, (blk_cell BK826.out 0).trans rfl, (blk_cell BK826.out 1).trans rfl, (blk_cell BK826.out 2).trans rfl, (blk_cell BK826.out 3).trans rfl, (blk_cell BK826.out 4).trans rfl⟩ (fun hHeld => ?_)
        clear hK K
        refine norm_ (a' := ?_) ?_ ?_
        rotate_left
        ·show Act.put _ (some 15) _ = _
         simp only [Act.put, sx_, s0_, s1_, i64_w, i32_w]
         rfl
        refine last_ (i := 6) (N := none) #[true, true, true, true, true, true, true, false, false] rfl rfl (one_of HT_.out kr_) (by decide) (fun K hK => ?_)
        have hs71 : w70.cell? ⟨gb824, 0, none⟩ = some (.int .i64 a0_0) := (blk_cell BK824.out 0).trans rfl
        have hfs71 := blk_frozen BK824.out 0
        have hns71_1 := NB825_824.out
        have hns71_2 := NB826_824.out
        have hms71_1 := NB824_825.out
        have hms71_2 := NB824_826.out
        have hs72 : w70.cell? ⟨gb824, 1, none⟩ = some (.string a0_1) := (blk_cell BK824.out 1).trans rfl
        have hfs72 := blk_frozen BK824.out 1
        have hns72_1 := NB825_824.out
        have hns72_2 := NB826_824.out
        have hms72_1 := NB824_825.out
        have hms72_2 := NB824_826.out
        have hs73 : w70.cell? ⟨gb824, 2, none⟩ = some (.string a0_2) := (blk_cell BK824.out 2).trans rfl
        have hfs73 := blk_frozen BK824.out 2
        have hns73_1 := NB825_824.out
        have hns73_2 := NB826_824.out
        have hms73_1 := NB824_825.out
        have hms73_2 := NB824_826.out
        have hs75 : w70.cell? ⟨gb824, 3, none⟩ = some (.slice A0_3 l0_3.length c0_3) := (blk_cell BK824.out 3).trans rfl
        have hfs75 := blk_frozen BK824.out 3
        have hns75_1 := NB825_824.out
        have hns75_2 := NB826_824.out
        have hms75_1 := NB824_825.out
        have hms75_2 := NB824_826.out
        have hs77 : w70.cell? ⟨gb824, 4, none⟩ = some (.slice A0_4 l0_4.length c0_4) := (blk_cell BK824.out 4).trans rfl
        have hfs77 := blk_frozen BK824.out 4
        have hns77_1 := NB825_824.out
        have hns77_2 := NB826_824.out
        have hms77_1 := NB824_825.out
        have hms77_2 := NB824_826.out
        refine skip_ (w1 := ?_) ?_ ?_ ?_ ?_
        rotate_left
        ·rfl
        ·rfl
        ·go_simp
         rfl
        refine hK.out _ _ ?_
        clear hK K
        refine last_ (i := 7) (N := none) #[true, true, true, true, true, true, true, true, false] rfl rfl (one_of HT_.out kr_) (by decide) (fun K hK => ?_)
        have hs78 : w70.cell? ⟨gb825, 0, none⟩ = some (.int .i64 a1_0) := (blk_cell BK825.out 0).trans rfl
        have hfs78 := blk_frozen BK825.out 0
        have hns78_0 := NB824_825.out
        have hns78_2 := NB826_825.out
        have hms78_0 := NB825_824.out
        have hms78_2 := NB825_826.out
        have hs79 : w70.cell? ⟨gb825, 1, none⟩ = some (.string a1_1) := (blk_cell BK825.out 1).trans rfl
        have hfs79 := blk_frozen BK825.out 1
        have hns79_0 := NB824_825.out
        have hns79_2 := NB826_825.out
        have hms79_0 := NB825_824.out
        have hms79_2 := NB825_826.out
        have hs80 : w70.cell? ⟨gb825, 2, none⟩ = some (.string a1_2) := (blk_cell BK825.out 2).trans rfl
        have hfs80 := blk_frozen BK825.out 2
        have hns80_0 := NB824_825.out
        have hns80_2 := NB826_825.out
        have hms80_0 := NB825_824.out
        have hms80_2 := NB825_826.out
        have hs82 : w70.cell? ⟨gb825, 3, none⟩ = some (.slice A1_3 l1_3.length c1_3) := (blk_cell BK825.out 3).trans rfl
        have hfs82 := blk_frozen BK825.out 3
        have hns82_0 := NB824_825.out
        have hns82_2 := NB826_825.out
        have hms82_0 := NB825_824.out
        have hms82_2 := NB825_826.out
        have hs84 : w70.cell? ⟨gb825, 4, none⟩ = some (.slice A1_4 l1_4.length c1_4) := (blk_cell BK825.out 4).trans rfl
        have hfs84 := blk_frozen BK825.out 4
        have hns84_0 := NB824_825.out
        have hns84_2 := NB826_825.out
        have hms84_0 := NB825_824.out
        have hms84_2 := NB825_826.out
        refine skip_ (w1 := ?_) ?_ ?_ ?_ ?_
        rotate_left
        ·rfl
        ·rfl
        ·go_simp
         rfl
        refine hK.out _ _ ?_
        clear hK K
        refine last_ (i := 8) (N := none) #[true, true, true, true, true, true, true, true, true] rfl rfl (one_of HT_.out kr_) (by decide) (fun K hK => ?_)
        have hs85 : w70.cell? ⟨gb826, 0, none⟩ = some (.int .i64 a2_0) := (blk_cell BK826.out 0).trans rfl
        have hfs85 := blk_frozen BK826.out 0
        have hns85_0 := NB824_826.out
        have hns85_1 := NB825_826.out
        have hms85_0 := NB826_824.out
        have hms85_1 := NB826_825.out
        have hs86 : w70.cell? ⟨gb826, 1, none⟩ = some (.string a2_1) := (blk_cell BK826.out 1).trans rfl
        have hfs86 := blk_frozen BK826.out 1
        have hns86_0 := NB824_826.out
        have hns86_1 := NB825_826.out
        have hms86_0 := NB826_824.out
        have hms86_1 := NB826_825.out
        have hs87 : w70.cell? ⟨gb826, 2, none⟩ = some (.string a2_2) := (blk_cell BK826.out 2).trans rfl
        have hfs87 := blk_frozen BK826.out 2
        have hns87_0 := NB824_826.out
        have hns87_1 := NB825_826.out
        have hms87_0 := NB826_824.out
        have hms87_1 := NB826_825.out
        have hs89 : w70.cell? ⟨gb826, 3, none⟩ = some (.slice A2_3 l2_3.length c2_3) := (blk_cell BK826.out 3).trans rfl
        have hfs89 := blk_frozen BK826.out 3
        have hns89_0 := NB824_826.out
        have hns89_1 := NB825_826.out
        have hms89_0 := NB826_824.out
        have hms89_1 := NB826_825.out
        have hs91 : w70.cell? ⟨gb826, 4, none⟩ = some (.slice A2_4 l2_4.length c2_4) := (blk_cell BK826.out 4).trans rfl
        have hfs91 := blk_frozen BK826.out 4
        have hns91_0 := NB824_826.out
        have hns91_1 := NB825_826.out
        have hms91_0 := NB826_824.out
        have hms91_1 := NB826_825.out
        refine skip_ (w1 := ?_) ?_ ?_ ?_ ?_
        rotate_left
        ·rfl
        ·rfl
        ·go_simp
         rfl
        refine hK.out _ _ ?_
        clear hK K
        refine done_ (done_of HT_.out kr_) ?_
        try go_wp2
        have n0_ : Aside0 (Kd.R k49 49 (((((((((((((((w70.setCell ⟨gb824, 0, none⟩ (.int .i64 t827)).setCell ⟨gb824, 1, none⟩ (.string t828)).setCell ⟨gb824, 2, none⟩ (.string t829)).setCell ⟨gb824, 3, none⟩ (.slice Ao74 t830.length co74)).setCell ⟨gb824, 4, none⟩ (.slice Ao76 t833.length co76)).setCell ⟨gb825, 0, none⟩ (.int .i64 t836)).setCell ⟨gb825, 1, none⟩ (.string t837)).setCell ⟨gb825, 2, none⟩ (.string t838)).setCell ⟨gb825, 3, none⟩ (.slice Ao81 t839.length co81)).setCell ⟨gb825, 4, none⟩ (.slice Ao83 t842.length co83)).setCell ⟨gb826, 0, none⟩ (.int .i64 t845)).setCell ⟨gb826, 1, none⟩ (.string t846)).setCell ⟨gb826, 2, none⟩ (.string t847)).setCell ⟨gb826, 3, none⟩ (.slice Ao88 t848.length co88)).setCell ⟨gb826, 4, none⟩ (.slice Ao90 t851.length co90)) w.heap.size (fun k_ => some k_ ≠ (.slice Ao76 t833.length co76 : Value).ownBlock ∧ some k_ ≠ (.slice Ao81 t839.length co81 : Value).ownBlock ∧ some k_ ≠ (.slice Ao83 t842.length co83 : Value).ownBlock ∧ some k_ ≠ (.slice Ao88 t848.length co88 : Value).ownBlock ∧ some k_ ≠ (.slice Ao90 t851.length co90 : Value).ownBlock) (.slice Ao74 t830.length co74) t830) := ⟨by (with_reducible repeat (first | apply Kd.R_alloc | apply Kd.R_drewN | apply Kd.R_drew)); exact Kd.R_mono (Kd.R_far (p := ⟨gb826, 4, none⟩) (Kd.R_far (p := ⟨gb826, 3, none⟩) (Kd.R_far (p := ⟨gb826, 2, none⟩) (Kd.R_far (p := ⟨gb826, 1, none⟩) (Kd.R_far (p := ⟨gb826, 0, none⟩) (Kd.R_far (p := ⟨gb825, 4, none⟩) (Kd.R_far (p := ⟨gb825, 3, none⟩) (Kd.R_far (p := ⟨gb825, 2, none⟩) (Kd.R_far (p := ⟨gb825, 1, none⟩) (Kd.R_far (p := ⟨gb825, 0, none⟩) (Kd.R_far (p := ⟨gb824, 4, none⟩) (Kd.R_far (p := ⟨gb824, 3, none⟩) (Kd.R_far (p := ⟨gb824, 2, none⟩) (Kd.R_far (p := ⟨gb824, 1, none⟩) (Kd.R_far (p := ⟨gb824, 0, none⟩) (Kd.R_types (Kd.R_types (Kd.R_types HO832.out BK824.out (by decide)) BK825.out (by decide)) BK826.out (by decide)) (fun _ hk => hk.1.1.2) (.int .i64 t827)) (fun _ hk => hk.1.1.2) (.string t828)) (fun _ hk => hk.1.1.2) (.string t829)) (fun _ hk => hk.1.1.2) (.slice Ao74 t830.length co74)) (fun _ hk => hk.1.1.2) (.slice Ao76 t833.length co76)) (fun _ hk => hk.1.2) (.int .i64 t836)) (fun _ hk => hk.1.2) (.string t837)) (fun _ hk => hk.1.2) (.string t838)) (fun _ hk => hk.1.2) (.slice Ao81 t839.length co81)) (fun _ hk => hk.1.2) (.slice Ao83 t842.length co83)) (fun _ hk => hk.2) (.int .i64 t845)) (fun _ hk => hk.2) (.string t846)) (fun _ hk => hk.2) (.string t847)) (fun _ hk => hk.2) (.slice Ao88 t848.length co88)) (fun _ hk => hk.2) (.slice Ao90 t851.length co90)) (fun _ hk => ⟨hk.1.1.1.1.1.1.1, ⟨hk.1.1.1.1.1.1.2, ⟨hk.1.1.1.1.1.2, ⟨hk.1.1.1.1.2, hk.1.1.1.2⟩⟩⟩⟩)⟩
        have n1_ : Aside0 (Kd.R k49 49 (((((((((((((((w70.setCell ⟨gb824, 0, none⟩ (.int .i64 t827)).setCell ⟨gb824, 1, none⟩ (.string t828)).setCell ⟨gb824, 2, none⟩ (.string t829)).setCell ⟨gb824, 3, none⟩ (.slice Ao74 t830.length co74)).setCell ⟨gb824, 4, none⟩ (.slice Ao76 t833.length co76)).setCell ⟨gb825, 0, none⟩ (.int .i64 t836)).setCell ⟨gb825, 1, none⟩ (.string t837)).setCell ⟨gb825, 2, none⟩ (.string t838)).setCell ⟨gb825, 3, none⟩ (.slice Ao81 t839.length co81)).setCell ⟨gb825, 4, none⟩ (.slice Ao83 t842.length co83)).setCell ⟨gb826, 0, none⟩ (.int .i64 t845)).setCell ⟨gb826, 1, none⟩ (.string t846)).setCell ⟨gb826, 2, none⟩ (.string t847)).setCell ⟨gb826, 3, none⟩ (.slice Ao88 t848.length co88)).setCell ⟨gb826, 4, none⟩ (.slice Ao90 t851.length co90)) w.heap.size (fun k_ => some k_ ≠ (.slice Ao74 t830.length co74 : Value).ownBlock ∧ some k_ ≠ (.slice Ao81 t839.length co81 : Value).ownBlock ∧ some k_ ≠ (.slice Ao83 t842.length co83 : Value).ownBlock ∧ some k_ ≠ (.slice Ao88 t848.length co88 : Value).ownBlock ∧ some k_ ≠ (.slice Ao90 t851.length co90 : Value).ownBlock) (.slice Ao76 t833.length co76) t833) := ⟨by (with_reducible repeat (first | apply Kd.R_alloc | apply Kd.R_drewN | apply Kd.R_drew)); exact Kd.R_mono (Kd.R_far (p := ⟨gb826, 4, none⟩) (Kd.R_far (p := ⟨gb826, 3, none⟩) (Kd.R_far (p := ⟨gb826, 2, none⟩) (Kd.R_far (p := ⟨gb826, 1, none⟩) (Kd.R_far (p := ⟨gb826, 0, none⟩) (Kd.R_far (p := ⟨gb825, 4, none⟩) (Kd.R_far (p := ⟨gb825, 3, none⟩) (Kd.R_far (p := ⟨gb825, 2, none⟩) (Kd.R_far (p := ⟨gb825, 1, none⟩) (Kd.R_far (p := ⟨gb825, 0, none⟩) (Kd.R_far (p := ⟨gb824, 4, none⟩) (Kd.R_far (p := ⟨gb824, 3, none⟩) (Kd.R_far (p := ⟨gb824, 2, none⟩) (Kd.R_far (p := ⟨gb824, 1, none⟩) (Kd.R_far (p := ⟨gb824, 0, none⟩) (Kd.R_types (Kd.R_types (Kd.R_types HO835.out BK824.out (by decide)) BK825.out (by decide)) BK826.out (by decide)) (fun _ hk => hk.1.1.2) (.int .i64 t827)) (fun _ hk => hk.1.1.2) (.string t828)) (fun _ hk => hk.1.1.2) (.string t829)) (fun _ hk => hk.1.1.2) (.slice Ao74 t830.length co74)) (fun _ hk => hk.1.1.2) (.slice Ao76 t833.length co76)) (fun _ hk => hk.1.2) (.int .i64 t836)) (fun _ hk => hk.1.2) (.string t837)) (fun _ hk => hk.1.2) (.string t838)) (fun _ hk => hk.1.2) (.slice Ao81 t839.length co81)) (fun _ hk => hk.1.2) (.slice Ao83 t842.length co83)) (fun _ hk => hk.2) (.int .i64 t845)) (fun _ hk => hk.2) (.string t846)) (fun _ hk => hk.2) (.string t847)) (fun _ hk => hk.2) (.slice Ao88 t848.length co88)) (fun _ hk => hk.2) (.slice Ao90 t851.length co90)) (fun _ hk => ⟨hk.1.1.1.1.1.1.1, ⟨hk.1.1.1.1.1.1.2, ⟨hk.1.1.1.1.1.2, ⟨hk.1.1.1.1.2, hk.1.1.1.2⟩⟩⟩⟩)⟩
        have n2_ : Aside0 (Kd.R k49 49 (((((((((((((((w70.setCell ⟨gb824, 0, none⟩ (.int .i64 t827)).setCell ⟨gb824, 1, none⟩ (.string t828)).setCell ⟨gb824, 2, none⟩ (.string t829)).setCell ⟨gb824, 3, none⟩ (.slice Ao74 t830.length co74)).setCell ⟨gb824, 4, none⟩ (.slice Ao76 t833.length co76)).setCell ⟨gb825, 0, none⟩ (.int .i64 t836)).setCell ⟨gb825, 1, none⟩ (.string t837)).setCell ⟨gb825, 2, none⟩ (.string t838)).setCell ⟨gb825, 3, none⟩ (.slice Ao81 t839.length co81)).setCell ⟨gb825, 4, none⟩ (.slice Ao83 t842.length co83)).setCell ⟨gb826, 0, none⟩ (.int .i64 t845)).setCell ⟨gb826, 1, none⟩ (.string t846)).setCell ⟨gb826, 2, none⟩ (.string t847)).setCell ⟨gb826, 3, none⟩ (.slice Ao88 t848.length co88)).setCell ⟨gb826, 4, none⟩ (.slice Ao90 t851.length co90)) w.heap.size (fun k_ => some k_ ≠ (.slice Ao74 t830.length co74 : Value).ownBlock ∧ some k_ ≠ (.slice Ao76 t833.length co76 : Value).ownBlock ∧ some k_ ≠ (.slice Ao83 t842.length co83 : Value).ownBlock ∧ some k_ ≠ (.slice Ao88 t848.length co88 : Value).ownBlock ∧ some k_ ≠ (.slice Ao90 t851.length co90 : Value).ownBlock) (.slice Ao81 t839.length co81) t839) := ⟨by (with_reducible repeat (first | apply Kd.R_alloc | apply Kd.R_drewN | apply Kd.R_drew)); exact Kd.R_mono (Kd.R_far (p := ⟨gb826, 4, none⟩) (Kd.R_far (p := ⟨gb826, 3, none⟩) (Kd.R_far (p := ⟨gb826, 2, none⟩) (Kd.R_far (p := ⟨gb826, 1, none⟩) (Kd.R_far (p := ⟨gb826, 0, none⟩) (Kd.R_far (p := ⟨gb825, 4, none⟩) (Kd.R_far (p := ⟨gb825, 3, none⟩) (Kd.R_far (p := ⟨gb825, 2, none⟩) (Kd.R_far (p := ⟨gb825, 1, none⟩) (Kd.R_far (p := ⟨gb825, 0, none⟩) (Kd.R_far (p := ⟨gb824, 4, none⟩) (Kd.R_far (p := ⟨gb824, 3, none⟩) (Kd.R_far (p := ⟨gb824, 2, none⟩) (Kd.R_far (p := ⟨gb824, 1, none⟩) (Kd.R_far (p := ⟨gb824, 0, none⟩) (Kd.R_types (Kd.R_types (Kd.R_types HO841.out BK824.out (by decide)) BK825.out (by decide)) BK826.out (by decide)) (fun _ hk => hk.1.1.2) (.int .i64 t827)) (fun _ hk => hk.1.1.2) (.string t828)) (fun _ hk => hk.1.1.2) (.string t829)) (fun _ hk => hk.1.1.2) (.slice Ao74 t830.length co74)) (fun _ hk => hk.1.1.2) (.slice Ao76 t833.length co76)) (fun _ hk => hk.1.2) (.int .i64 t836)) (fun _ hk => hk.1.2) (.string t837)) (fun _ hk => hk.1.2) (.string t838)) (fun _ hk => hk.1.2) (.slice Ao81 t839.length co81)) (fun _ hk => hk.1.2) (.slice Ao83 t842.length co83)) (fun _ hk => hk.2) (.int .i64 t845)) (fun _ hk => hk.2) (.string t846)) (fun _ hk => hk.2) (.string t847)) (fun _ hk => hk.2) (.slice Ao88 t848.length co88)) (fun _ hk => hk.2) (.slice Ao90 t851.length co90)) (fun _ hk => ⟨hk.1.1.1.1.1.1.2, ⟨hk.1.1.1.1.1.2, ⟨hk.1.1.1.1.1.1.1, ⟨hk.1.1.1.1.2, hk.1.1.1.2⟩⟩⟩⟩)⟩
        have n3_ : Aside0 (Kd.R k49 49 (((((((((((((((w70.setCell ⟨gb824, 0, none⟩ (.int .i64 t827)).setCell ⟨gb824, 1, none⟩ (.string t828)).setCell ⟨gb824, 2, none⟩ (.string t829)).setCell ⟨gb824, 3, none⟩ (.slice Ao74 t830.length co74)).setCell ⟨gb824, 4, none⟩ (.slice Ao76 t833.length co76)).setCell ⟨gb825, 0, none⟩ (.int .i64 t836)).setCell ⟨gb825, 1, none⟩ (.string t837)).setCell ⟨gb825, 2, none⟩ (.string t838)).setCell ⟨gb825, 3, none⟩ (.slice Ao81 t839.length co81)).setCell ⟨gb825, 4, none⟩ (.slice Ao83 t842.length co83)).setCell ⟨gb826, 0, none⟩ (.int .i64 t845)).setCell ⟨gb826, 1, none⟩ (.string t846)).setCell ⟨gb826, 2, none⟩ (.string t847)).setCell ⟨gb826, 3, none⟩ (.slice Ao88 t848.length co88)).setCell ⟨gb826, 4, none⟩ (.slice Ao90 t851.length co90)) w.heap.size (fun k_ => some k_ ≠ (.slice Ao74 t830.length co74 : Value).ownBlock ∧ some k_ ≠ (.slice Ao76 t833.length co76 : Value).ownBlock ∧ some k_ ≠ (.slice Ao81 t839.length co81 : Value).ownBlock ∧ some k_ ≠ (.slice Ao88 t848.length co88 : Value).ownBlock ∧ some k_ ≠ (.slice Ao90 t851.length co90 : Value).ownBlock) (.slice Ao83 t842.length co83) t842) := ⟨by (with_reducible repeat (first | apply Kd.R_alloc | apply Kd.R_drewN | apply Kd.R_drew)); exact Kd.R_mono (Kd.R_far (p := ⟨gb826, 4, none⟩) (Kd.R_far (p := ⟨gb826, 3, none⟩) (Kd.R_far (p := ⟨gb826, 2, none⟩) (Kd.R_far (p := ⟨gb826, 1, none⟩) (Kd.R_far (p := ⟨gb826, 0, none⟩) (Kd.R_far (p := ⟨gb825, 4, none⟩) (Kd.R_far (p := ⟨gb825, 3, none⟩) (Kd.R_far (p := ⟨gb825, 2, none⟩) (Kd.R_far (p := ⟨gb825, 1, none⟩) (Kd.R_far (p := ⟨gb825, 0, none⟩) (Kd.R_far (p := ⟨gb824, 4, none⟩) (Kd.R_far (p := ⟨gb824, 3, none⟩) (Kd.R_far (p := ⟨gb824, 2, none⟩) (Kd.R_far (p := ⟨gb824, 1, none⟩) (Kd.R_far (p := ⟨gb824, 0, none⟩) (Kd.R_types (Kd.R_types (Kd.R_types HO844.out BK824.out (by decide)) BK825.out (by decide)) BK826.out (by decide)) (fun _ hk => hk.1.1.2) (.int .i64 t827)) (fun _ hk => hk.1.1.2) (.string t828)) (fun _ hk => hk.1.1.2) (.string t829)) (fun _ hk => hk.1.1.2) (.slice Ao74 t830.length co74)) (fun _ hk => hk.1.1.2) (.slice Ao76 t833.length co76)) (fun _ hk => hk.1.2) (.int .i64 t836)) (fun _ hk => hk.1.2) (.string t837)) (fun _ hk => hk.1.2) (.string t838)) (fun _ hk => hk.1.2) (.slice Ao81 t839.length co81)) (fun _ hk => hk.1.2) (.slice Ao83 t842.length co83)) (fun _ hk => hk.2) (.int .i64 t845)) (fun _ hk => hk.2) (.string t846)) (fun _ hk => hk.2) (.string t847)) (fun _ hk => hk.2) (.slice Ao88 t848.length co88)) (fun _ hk => hk.2) (.slice Ao90 t851.length co90)) (fun _ hk => ⟨hk.1.1.1.1.1.1.2, ⟨hk.1.1.1.1.1.2, ⟨hk.1.1.1.1.1.1.1, ⟨hk.1.1.1.1.2, hk.1.1.1.2⟩⟩⟩⟩)⟩
        have n4_ : Aside0 (Kd.R k49 49 (((((((((((((((w70.setCell ⟨gb824, 0, none⟩ (.int .i64 t827)).setCell ⟨gb824, 1, none⟩ (.string t828)).setCell ⟨gb824, 2, none⟩ (.string t829)).setCell ⟨gb824, 3, none⟩ (.slice Ao74 t830.length co74)).setCell ⟨gb824, 4, none⟩ (.slice Ao76 t833.length co76)).setCell ⟨gb825, 0, none⟩ (.int .i64 t836)).setCell ⟨gb825, 1, none⟩ (.string t837)).setCell ⟨gb825, 2, none⟩ (.string t838)).setCell ⟨gb825, 3, none⟩ (.slice Ao81 t839.length co81)).setCell ⟨gb825, 4, none⟩ (.slice Ao83 t842.length co83)).setCell ⟨gb826, 0, none⟩ (.int .i64 t845)).setCell ⟨gb826, 1, none⟩ (.string t846)).setCell ⟨gb826, 2, none⟩ (.string t847)).setCell ⟨gb826, 3, none⟩ (.slice Ao88 t848.length co88)).setCell ⟨gb826, 4, none⟩ (.slice Ao90 t851.length co90)) w.heap.size (fun k_ => some k_ ≠ (.slice Ao74 t830.length co74 : Value).ownBlock ∧ some k_ ≠ (.slice Ao76 t833.length co76 : Value).ownBlock ∧ some k_ ≠ (.slice Ao81 t839.length co81 : Value).ownBlock ∧ some k_ ≠ (.slice Ao83 t842.length co83 : Value).ownBlock ∧ some k_ ≠ (.slice Ao90 t851.length co90 : Value).ownBlock) (.slice Ao88 t848.length co88) t848) := ⟨by (with_reducible repeat (first | apply Kd.R_alloc | apply Kd.R_drewN | apply Kd.R_drew)); exact Kd.R_mono (Kd.R_far (p := ⟨gb826, 4, none⟩) (Kd.R_far (p := ⟨gb826, 3, none⟩) (Kd.R_far (p := ⟨gb826, 2, none⟩) (Kd.R_far (p := ⟨gb826, 1, none⟩) (Kd.R_far (p := ⟨gb826, 0, none⟩) (Kd.R_far (p := ⟨gb825, 4, none⟩) (Kd.R_far (p := ⟨gb825, 3, none⟩) (Kd.R_far (p := ⟨gb825, 2, none⟩) (Kd.R_far (p := ⟨gb825, 1, none⟩) (Kd.R_far (p := ⟨gb825, 0, none⟩) (Kd.R_far (p := ⟨gb824, 4, none⟩) (Kd.R_far (p := ⟨gb824, 3, none⟩) (Kd.R_far (p := ⟨gb824, 2, none⟩) (Kd.R_far (p := ⟨gb824, 1, none⟩) (Kd.R_far (p := ⟨gb824, 0, none⟩) (Kd.R_types (Kd.R_types (Kd.R_types HO850.out BK824.out (by decide)) BK825.out (by decide)) BK826.out (by decide)) (fun _ hk => hk.1.1.2) (.int .i64 t827)) (fun _ hk => hk.1.1.2) (.string t828)) (fun _ hk => hk.1.1.2) (.string t829)) (fun _ hk => hk.1.1.2) (.slice Ao74 t830.length co74)) (fun _ hk => hk.1.1.2) (.slice Ao76 t833.length co76)) (fun _ hk => hk.1.2) (.int .i64 t836)) (fun _ hk => hk.1.2) (.string t837)) (fun _ hk => hk.1.2) (.string t838)) (fun _ hk => hk.1.2) (.slice Ao81 t839.length co81)) (fun _ hk => hk.1.2) (.slice Ao83 t842.length co83)) (fun _ hk => hk.2) (.int .i64 t845)) (fun _ hk => hk.2) (.string t846)) (fun _ hk => hk.2) (.string t847)) (fun _ hk => hk.2) (.slice Ao88 t848.length co88)) (fun _ hk => hk.2) (.slice Ao90 t851.length co90)) (fun _ hk => ⟨hk.1.1.1.1.1.1.2, ⟨hk.1.1.1.1.1.2, ⟨hk.1.1.1.1.2, ⟨hk.1.1.1.2, hk.1.1.1.1.1.1.1⟩⟩⟩⟩)⟩
        have n5_ : Aside0 (Kd.R k49 49 (((((((((((((((w70.setCell ⟨gb824, 0, none⟩ (.int .i64 t827)).setCell ⟨gb824, 1, none⟩ (.string t828)).setCell ⟨gb824, 2, none⟩ (.string t829)).setCell ⟨gb824, 3, none⟩ (.slice Ao74 t830.length co74)).setCell ⟨gb824, 4, none⟩ (.slice Ao76 t833.length co76)).setCell ⟨gb825, 0, none⟩ (.int .i64 t836)).setCell ⟨gb825, 1, none⟩ (.string t837)).setCell ⟨gb825, 2, none⟩ (.string t838)).setCell ⟨gb825, 3, none⟩ (.slice Ao81 t839.length co81)).setCell ⟨gb825, 4, none⟩ (.slice Ao83 t842.length co83)).setCell ⟨gb826, 0, none⟩ (.int .i64 t845)).setCell ⟨gb826, 1, none⟩ (.string t846)).setCell ⟨gb826, 2, none⟩ (.string t847)).setCell ⟨gb826, 3, none⟩ (.slice Ao88 t848.length co88)).setCell ⟨gb826, 4, none⟩ (.slice Ao90 t851.length co90)) w.heap.size (fun k_ => some k_ ≠ (.slice Ao74 t830.length co74 : Value).ownBlock ∧ some k_ ≠ (.slice Ao76 t833.length co76 : Value).ownBlock ∧ some k_ ≠ (.slice Ao81 t839.length co81 : Value).ownBlock ∧ some k_ ≠ (.slice Ao83 t842.length co83 : Value).ownBlock ∧ some k_ ≠ (.slice Ao88 t848.length co88 : Value).ownBlock) (.slice Ao90 t851.length co90) t851) := ⟨by (with_reducible repeat (first | apply Kd.R_alloc | apply Kd.R_drewN | apply Kd.R_drew)); exact Kd.R_mono (Kd.R_far (p := ⟨gb826, 4, none⟩) (Kd.R_far (p := ⟨gb826, 3, none⟩) (Kd.R_far (p := ⟨gb826, 2, none⟩) (Kd.R_far (p := ⟨gb826, 1, none⟩) (Kd.R_far (p := ⟨gb826, 0, none⟩) (Kd.R_far (p := ⟨gb825, 4, none⟩) (Kd.R_far (p := ⟨gb825, 3, none⟩) (Kd.R_far (p := ⟨gb825, 2, none⟩) (Kd.R_far (p := ⟨gb825, 1, none⟩) (Kd.R_far (p := ⟨gb825, 0, none⟩) (Kd.R_far (p := ⟨gb824, 4, none⟩) (Kd.R_far (p := ⟨gb824, 3, none⟩) (Kd.R_far (p := ⟨gb824, 2, none⟩) (Kd.R_far (p := ⟨gb824, 1, none⟩) (Kd.R_far (p := ⟨gb824, 0, none⟩) (Kd.R_types (Kd.R_types (Kd.R_types HO853.out BK824.out (by decide)) BK825.out (by decide)) BK826.out (by decide)) (fun _ hk => hk.1.1.2) (.int .i64 t827)) (fun _ hk => hk.1.1.2) (.string t828)) (fun _ hk => hk.1.1.2) (.string t829)) (fun _ hk => hk.1.1.2) (.slice Ao74 t830.length co74)) (fun _ hk => hk.1.1.2) (.slice Ao76 t833.length co76)) (fun _ hk => hk.1.2) (.int .i64 t836)) (fun _ hk => hk.1.2) (.string t837)) (fun _ hk => hk.1.2) (.string t838)) (fun _ hk => hk.1.2) (.slice Ao81 t839.length co81)) (fun _ hk => hk.1.2) (.slice Ao83 t842.length co83)) (fun _ hk => hk.2) (.int .i64 t845)) (fun _ hk => hk.2) (.string t846)) (fun _ hk => hk.2) (.string t847)) (fun _ hk => hk.2) (.slice Ao88 t848.length co88)) (fun _ hk => hk.2) (.slice Ao90 t851.length co90)) (fun _ hk => ⟨hk.1.1.1.1.1.1.2, ⟨hk.1.1.1.1.1.2, ⟨hk.1.1.1.1.2, ⟨hk.1.1.1.2, hk.1.1.1.1.1.1.1⟩⟩⟩⟩)⟩
        have n6_ : Aside0 ((((((((((((((((w70.setCell ⟨gb824, 0, none⟩ (.int .i64 t827)).setCell ⟨gb824, 1, none⟩ (.string t828)).setCell ⟨gb824, 2, none⟩ (.string t829)).setCell ⟨gb824, 3, none⟩ (.slice Ao74 t830.length co74)).setCell ⟨gb824, 4, none⟩ (.slice Ao76 t833.length co76)).setCell ⟨gb825, 0, none⟩ (.int .i64 t836)).setCell ⟨gb825, 1, none⟩ (.string t837)).setCell ⟨gb825, 2, none⟩ (.string t838)).setCell ⟨gb825, 3, none⟩ (.slice Ao81 t839.length co81)).setCell ⟨gb825, 4, none⟩ (.slice Ao83 t842.length co83)).setCell ⟨gb826, 0, none⟩ (.int .i64 t845)).setCell ⟨gb826, 1, none⟩ (.string t846)).setCell ⟨gb826, 2, none⟩ (.string t847)).setCell ⟨gb826, 3, none⟩ (.slice Ao88 t848.length co88)).setCell ⟨gb826, 4, none⟩ (.slice Ao90 t851.length co90)).heap[gb824]? = some (.cells #[.int .i64 t827, .string t828, .string t829, .slice Ao74 t830.length co74, .slice Ao76 t833.length co76] 26 (0, 0))) := ⟨by (with_reducible repeat (first | refine blk_drewN ?_ _ | refine blk_drew ?_ | refine blk_alloc ?_ _)); refine blk_far ?_ NB824_826.out _; (with_reducible repeat (first | refine blk_drewN ?_ _ | refine blk_drew ?_ | refine blk_alloc ?_ _)); refine blk_far ?_ NB824_826.out _; (with_reducible repeat (first | refine blk_drewN ?_ _ | refine blk_drew ?_ | refine blk_alloc ?_ _)); refine blk_far ?_ NB824_826.out _; (with_reducible repeat (first | refine blk_drewN ?_ _ | refine blk_drew ?_ | refine blk_alloc ?_ _)); refine blk_far ?_ NB824_826.out _; (with_reducible repeat (first | refine blk_drewN ?_ _ | refine blk_drew ?_ | refine blk_alloc ?_ _)); refine blk_far ?_ NB824_826.out _; (with_reducible repeat (first | refine blk_drewN ?_ _ | refine blk_drew ?_ | refine blk_alloc ?_ _)); refine blk_far ?_ NB824_825.out _; (with_reducible repeat (first | refine blk_drewN ?_ _ | refine blk_drew ?_ | refine blk_alloc ?_ _)); refine blk_far ?_ NB824_825.out _; (with_reducible repeat (first | refine blk_drewN ?_ _ | refine blk_drew ?_ | refine blk_alloc ?_ _)); refine blk_far ?_ NB824_825.out _; (with_reducible repeat (first | refine blk_drewN ?_ _ | refine blk_drew ?_ | refine blk_alloc ?_ _)); refine blk_far ?_ NB824_825.out _; (with_reducible repeat (first | refine blk_drewN ?_ _ | refine blk_drew ?_ | refine blk_alloc ?_ _)); refine blk_far ?_ NB824_825.out _; (with_reducible repeat (first | refine blk_drewN ?_ _ | refine blk_drew ?_ | refine blk_alloc ?_ _)); refine blk_put (cs := #[.int .i64 t827, .string t828, .string t829, .slice Ao74 t830.length co74, .slice A0_4 l0_4.length c0_4]) ?_ 4 _ rfl; (with_reducible repeat (first | refine blk_drewN ?_ _ | refine blk_drew ?_ | refine blk_alloc ?_ _)); refine blk_put (cs := #[.int .i64 t827, .string t828, .string t829, .slice A0_3 l0_3.length c0_3, .slice A0_4 l0_4.length c0_4]) ?_ 3 _ rfl; (with_reducible repeat (first | refine blk_drewN ?_ _ | refine blk_drew ?_ | refine blk_alloc ?_ _)); refine blk_put (cs := #[.int .i64 t827, .string t828, .string a0_2, .slice A0_3 l0_3.length c0_3, .slice A0_4 l0_4.length c0_4]) ?_ 2 _ rfl; (with_reducible repeat (first | refine blk_drewN ?_ _ | refine blk_drew ?_ | refine blk_alloc ?_ _)); refine blk_put (cs := #[.int .i64 t827, .string a0_1, .string a0_2, .slice A0_3 l0_3.length c0_3, .slice A0_4 l0_4.length c0_4]) ?_ 1 _ rfl; (with_reducible repeat (first | refine blk_drewN ?_ _ | refine blk_drew ?_ | refine blk_alloc ?_ _)); refine blk_put (cs := #[.int .i64 a0_0, .string a0_1, .string a0_2, .slice A0_3 l0_3.length c0_3, .slice A0_4 l0_4.length c0_4]) ?_ 0 _ rfl; (with_reducible repeat (first | refine blk_drewN ?_ _ | refine blk_drew ?_ | refine blk_alloc ?_ _)); exact BK824.out⟩
        have n7_ : Aside0 ((((((((((((((((w70.setCell ⟨gb824, 0, none⟩ (.int .i64 t827)).setCell ⟨gb824, 1, none⟩ (.string t828)).setCell ⟨gb824, 2, none⟩ (.string t829)).setCell ⟨gb824, 3, none⟩ (.slice Ao74 t830.length co74)).setCell ⟨gb824, 4, none⟩ (.slice Ao76 t833.length co76)).setCell ⟨gb825, 0, none⟩ (.int .i64 t836)).setCell ⟨gb825, 1, none⟩ (.string t837)).setCell ⟨gb825, 2, none⟩ (.string t838)).setCell ⟨gb825, 3, none⟩ (.slice Ao81 t839.length co81)).setCell ⟨gb825, 4, none⟩ (.slice Ao83 t842.length co83)).setCell ⟨gb826, 0, none⟩ (.int .i64 t845)).setCell ⟨gb826, 1, none⟩ (.string t846)).setCell ⟨gb826, 2, none⟩ (.string t847)).setCell ⟨gb826, 3, none⟩ (.slice Ao88 t848.length co88)).setCell ⟨gb826, 4, none⟩ (.slice Ao90 t851.length co90)).heap[gb825]? = some (.cells #[.int .i64 t836, .string t837, .string t838, .slice Ao81 t839.length co81, .slice Ao83 t842.length co83] 26 (0, 0))) := ⟨by (with_reducible repeat (first | refine blk_drewN ?_ _ | refine blk_drew ?_ | refine blk_alloc ?_ _)); refine blk_far ?_ NB825_826.out _; (with_reducible repeat (first | refine blk_drewN ?_ _ | refine blk_drew ?_ | refine blk_alloc ?_ _)); refine blk_far ?_ NB825_826.out _; (with_reducible repeat (first | refine blk_drewN ?_ _ | refine blk_drew ?_ | refine blk_alloc ?_ _)); refine blk_far ?_ NB825_826.out _; (with_reducible repeat (first | refine blk_drewN ?_ _ | refine blk_drew ?_ | refine blk_alloc ?_ _)); refine blk_far ?_ NB825_826.out _; (with_reducible repeat (first | refine blk_drewN ?_ _ | refine blk_drew ?_ | refine blk_alloc ?_ _)); refine blk_far ?_ NB825_826.out _; (with_reducible repeat (first | refine blk_drewN ?_ _ | refine blk_drew ?_ | refine blk_alloc ?_ _)); refine blk_put (cs := #[.int .i64 t836, .string t837, .string t838, .slice Ao81 t839.length co81, .slice A1_4 l1_4.length c1_4]) ?_ 4 _ rfl; (with_reducible repeat (first | refine blk_drewN ?_ _ | refine blk_drew ?_ | refine blk_alloc ?_ _)); refine blk_put (cs := #[.int .i64 t836, .string t837, .string t838, .slice A1_3 l1_3.length c1_3, .slice A1_4 l1_4.length c1_4]) ?_ 3 _ rfl; (with_reducible repeat (first | refine blk_drewN ?_ _ | refine blk_drew ?_ | refine blk_alloc ?_ _)); refine blk_put (cs := #[.int .i64 t836, .string t837, .string a1_2, .slice A1_3 l1_3.length c1_3, .slice A1_4 l1_4.length c1_4]) ?_ 2 _ rfl; (with_reducible repeat (first | refine blk_drewN ?_ _ | refine blk_drew ?_ | refine blk_alloc ?_ _)); refine blk_put (cs := #[.int .i64 t836, .string a1_1, .string a1_2, .slice A1_3 l1_3.length c1_3, .slice A1_4 l1_4.length c1_4]) ?_ 1 _ rfl; (with_reducible repeat (first | refine blk_drewN ?_ _ | refine blk_drew ?_ | refine blk_alloc ?_ _)); refine blk_put (cs := #[.int .i64 a1_0, .string a1_1, .string a1_2, .slice A1_3 l1_3.length c1_3, .slice A1_4 l1_4.length c1_4]) ?_ 0 _ rfl; (with_reducible repeat (first | refine blk_drewN ?_ _ | refine blk_drew ?_ | refine blk_alloc ?_ _)); refine blk_far ?_ NB825_824.out _; (with_reducible repeat (first | refine blk_drewN ?_ _ | refine blk_drew ?_ | refine blk_alloc ?_ _)); refine blk_far ?_ NB825_824.out _; (with_reducible repeat (first | refine blk_drewN ?_ _ | refine blk_drew ?_ | refine blk_alloc ?_ _)); refine blk_far ?_ NB825_824.out _; (with_reducible repeat (first | refine blk_drewN ?_ _ | refine blk_drew ?_ | refine blk_alloc ?_ _)); refine blk_far ?_ NB825_824.out _; (with_reducible repeat (first | refine blk_drewN ?_ _ | refine blk_drew ?_ | refine blk_alloc ?_ _)); refine blk_far ?_ NB825_824.out _; (with_reducible repeat (first | refine blk_drewN ?_ _ | refine blk_drew ?_ | refine blk_alloc ?_ _)); exact BK825.out⟩
        have n8_ : Aside0 ((((((((((((((((w70.setCell ⟨gb824, 0, none⟩ (.int .i64 t827)).setCell ⟨gb824, 1, none⟩ (.string t828)).setCell ⟨gb824, 2, none⟩ (.string t829)).setCell ⟨gb824, 3, none⟩ (.slice Ao74 t830.length co74)).setCell ⟨gb824, 4, none⟩ (.slice Ao76 t833.length co76)).setCell ⟨gb825, 0, none⟩ (.int .i64 t836)).setCell ⟨gb825, 1, none⟩ (.string t837)).setCell ⟨gb825, 2, none⟩ (.string t838)).setCell ⟨gb825, 3, none⟩ (.slice Ao81 t839.length co81)).setCell ⟨gb825, 4, none⟩ (.slice Ao83 t842.length co83)).setCell ⟨gb826, 0, none⟩ (.int .i64 t845)).setCell ⟨gb826, 1, none⟩ (.string t846)).setCell ⟨gb826, 2, none⟩ (.string t847)).setCell ⟨gb826, 3, none⟩ (.slice Ao88 t848.length co88)).setCell ⟨gb826, 4, none⟩ (.slice Ao90 t851.length co90)).heap[gb826]? = some (.cells #[.int .i64 t845, .string t846, .string t847, .slice Ao88 t848.length co88, .slice Ao90 t851.length co90] 26 (0, 0))) := ⟨by (with_reducible repeat (first | refine blk_drewN ?_ _ | refine blk_drew ?_ | refine blk_alloc ?_ _)); refine blk_put (cs := #[.int .i64 t845, .string t846, .string t847, .slice Ao88 t848.length co88, .slice A2_4 l2_4.length c2_4]) ?_ 4 _ rfl; (with_reducible repeat (first | refine blk_drewN ?_ _ | refine blk_drew ?_ | refine blk_alloc ?_ _)); refine blk_put (cs := #[.int .i64 t845, .string t846, .string t847, .slice A2_3 l2_3.length c2_3, .slice A2_4 l2_4.length c2_4]) ?_ 3 _ rfl; (with_reducible repeat (first | refine blk_drewN ?_ _ | refine blk_drew ?_ | refine blk_alloc ?_ _)); refine blk_put (cs := #[.int .i64 t845, .string t846, .string a2_2, .slice A2_3 l2_3.length c2_3, .slice A2_4 l2_4.length c2_4]) ?_ 2 _ rfl; (with_reducible repeat (first | refine blk_drewN ?_ _ | refine blk_drew ?_ | refine blk_alloc ?_ _)); refine blk_put (cs := #[.int .i64 t845, .string a2_1, .string a2_2, .slice A2_3 l2_3.length c2_3, .slice A2_4 l2_4.length c2_4]) ?_ 1 _ rfl; (with_reducible repeat (first | refine blk_drewN ?_ _ | refine blk_drew ?_ | refine blk_alloc ?_ _)); refine blk_put (cs := #[.int .i64 a2_0, .string a2_1, .string a2_2, .slice A2_3 l2_3.length c2_3, .slice A2_4 l2_4.length c2_4]) ?_ 0 _ rfl; (with_reducible repeat (first | refine blk_drewN ?_ _ | refine blk_drew ?_ | refine blk_alloc ?_ _)); refine blk_far ?_ NB826_825.out _; (with_reducible repeat (first | refine blk_drewN ?_ _ | refine blk_drew ?_ | refine blk_alloc ?_ _)); refine blk_far ?_ NB826_825.out _; (with_reducible repeat (first | refine blk_drewN ?_ _ | refine blk_drew ?_ | refine blk_alloc ?_ _)); refine blk_far ?_ NB826_825.out _; (with_reducible repeat (first | refine blk_drewN ?_ _ | refine blk_drew ?_ | refine blk_alloc ?_ _)); refine blk_far ?_ NB826_825.out _; (with_reducible repeat (first | refine blk_drewN ?_ _ | refine blk_drew ?_ | refine blk_alloc ?_ _)); refine blk_far ?_ NB826_825.out _; (with_reducible repeat (first | refine blk_drewN ?_ _ | refine blk_drew ?_ | refine blk_alloc ?_ _)); refine blk_far ?_ NB826_824.out _; (with_reducible repeat (first | refine blk_drewN ?_ _ | refine blk_drew ?_ | refine blk_alloc ?_ _)); refine blk_far ?_ NB826_824.out _; (with_reducible repeat (first | refine blk_drewN ?_ _ | refine blk_drew ?_ | refine blk_alloc ?_ _)); refine blk_far ?_ NB826_824.out _; (with_reducible repeat (first | refine blk_drewN ?_ _ | refine blk_drew ?_ | refine blk_alloc ?_ _)); refine blk_far ?_ NB826_824.out _; (with_reducible repeat (first | refine blk_drewN ?_ _ | refine blk_drew ?_ | refine blk_alloc ?_ _)); refine blk_far ?_ NB826_824.out _; (with_reducible repeat (first | refine blk_drewN ?_ _ | refine blk_drew ?_ | refine blk_alloc ?_ _)); exact BK826.out⟩
        have n9_ : Aside0 (Below w.heap.size w (((((((((((((((w70.setCell ⟨gb824, 0, none⟩ (.int .i64 t827)).setCell ⟨gb824, 1, none⟩ (.string t828)).setCell ⟨gb824, 2, none⟩ (.string t829)).setCell ⟨gb824, 3, none⟩ (.slice Ao74 t830.length co74)).setCell ⟨gb824, 4, none⟩ (.slice Ao76 t833.length co76)).setCell ⟨gb825, 0, none⟩ (.int .i64 t836)).setCell ⟨gb825, 1, none⟩ (.string t837)).setCell ⟨gb825, 2, none⟩ (.string t838)).setCell ⟨gb825, 3, none⟩ (.slice Ao81 t839.length co81)).setCell ⟨gb825, 4, none⟩ (.slice Ao83 t842.length co83)).setCell ⟨gb826, 0, none⟩ (.int .i64 t845)).setCell ⟨gb826, 1, none⟩ (.string t846)).setCell ⟨gb826, 2, none⟩ (.string t847)).setCell ⟨gb826, 3, none⟩ (.slice Ao88 t848.length co88)).setCell ⟨gb826, 4, none⟩ (.slice Ao90 t851.length co90))) := ⟨bel_ HB.out⟩
        (try clear HO832)
        (try clear HO835)
        (try clear HO841)
        (try clear HO844)
        (try clear HO850)
        (try clear HO853)
        (try clear BK824)
        (try clear BK825)
        (try clear BK826)
        (try clear HB)
        generalize (((((((((((((((w70.setCell ⟨gb824, 0, none⟩ (.int .i64 t827)).setCell ⟨gb824, 1, none⟩ (.string t828)).setCell ⟨gb824, 2, none⟩ (.string t829)).setCell ⟨gb824, 3, none⟩ (.slice Ao74 t830.length co74)).setCell ⟨gb824, 4, none⟩ (.slice Ao76 t833.length co76)).setCell ⟨gb825, 0, none⟩ (.int .i64 t836)).setCell ⟨gb825, 1, none⟩ (.string t837)).setCell ⟨gb825, 2, none⟩ (.string t838)).setCell ⟨gb825, 3, none⟩ (.slice Ao81 t839.length co81)).setCell ⟨gb825, 4, none⟩ (.slice Ao83 t842.length co83)).setCell ⟨gb826, 0, none⟩ (.int .i64 t845)).setCell ⟨gb826, 1, none⟩ (.string t846)).setCell ⟨gb826, 2, none⟩ (.string t847)).setCell ⟨gb826, 3, none⟩ (.slice Ao88 t848.length co88)).setCell ⟨gb826, 4, none⟩ (.slice Ao90 t851.length co90)) = w92 at n0_ n1_ n2_ n3_ n4_ n5_ n6_ n7_ n8_ n9_ ⊢
        have HO832 := n0_
        have HO835 := n1_
        have HO841 := n2_
        have HO844 := n3_
        have HO850 := n4_
        have HO853 := n5_
        have BK824 := n6_
        have BK825 := n7_
        have BK826 := n8_
        have HB := n9_
        clear n0_ n1_ n2_ n3_ n4_ n5_ n6_ n7_ n8_ n9_
        have n0_ := am_ (Kd.R_drew HO832.out)
        have n1_ := am_ (Kd.R_drew HO835.out)
        have n2_ := am_ (Kd.R_drew HO841.out)
        have n3_ := am_ (Kd.R_drew HO844.out)
        have n4_ := am_ (Kd.R_drew HO850.out)
        have n5_ := am_ (Kd.R_drew HO853.out)
        have n6_ := am_ (blk_drew BK824.out)
        have n7_ := am_ (blk_drew BK825.out)
        have n8_ := am_ (blk_drew BK826.out)
        have n9_ := am_ (below_drew1 HB.out)
        clear HO832 HO835 HO841 HO844 HO850 HO853 BK824 BK825 BK826 HB
        have HO832 := n0_
        have HO835 := n1_
        have HO841 := n2_
        have HO844 := n3_
        have HO850 := n4_
        have HO853 := n5_
        have BK824 := n6_
        have BK825 := n7_
        have BK826 := n8_
        have HB := n9_
        clear n0_ n1_ n2_ n3_ n4_ n5_ n6_ n7_ n8_ n9_
        refine start_ (n := 12) (S := fun w' => w'.cell? ⟨gb824, 0, none⟩ = some (.int .i64 t827) ∧ w'.cell? ⟨gb824, 1, none⟩ = some (.string t828) ∧ w'.cell? ⟨gb824, 2, none⟩ = some (.string t829) ∧ w'.cell? ⟨gb824, 3, none⟩ = some (.slice Ao74 t830.length co74) ∧ w'.cell? ⟨gb824, 4, none⟩ = some (.slice Ao76 t833.length co76) ∧ w'.cell? ⟨gb825, 0, none⟩ = some (.int .i64 t836) ∧ w'.cell? ⟨gb825, 1, none⟩ = some (.string t837) ∧ w'.cell? ⟨gb825, 2, none⟩ = some (.string t838) ∧ w'.cell? ⟨gb825, 3, none⟩ = some (.slice Ao81 t839.length co81) ∧ w'.cell? ⟨gb825, 4, none⟩ = some (.slice Ao83 t842.length co83) ∧ w'.cell? ⟨gb826, 0, none⟩ = some (.int .i64 t845) ∧ w'.cell? ⟨gb826, 1, none⟩ = some (.string t846) ∧ w'.cell? ⟨gb826, 2, none⟩ = some (.string t847) ∧ w'.cell? ⟨gb826, 3, none⟩ = some (.slice Ao88 t848.length co88) ∧ w'.cell? ⟨gb826, 4, none⟩ = some (.slice Ao90 t851.length co90)) (ds := []) #[false, false, false, false, false, false, false, false, false, false, false, false] kr_ rfl rfl ⟨(blk_cell BK824.out 0).trans rfl, (blk_cell BK824.out 1).trans rfl, (blk_cell BK824.out 2).trans rfl, (blk_cell BK824.out 3).trans rfl, (blk_cell BK824.out 4).trans rfl, (blk_cell BK825.out 0).trans rfl, (blk_cell BK825.out 1).trans rfl, (blk_cell BK825.out 2).trans rfl, (blk_cell BK825.out 3).trans rfl, (blk_cell BK825.out 4).trans rfl, (blk_cell BK826.out 0).trans rfl, (blk_cell BK826.out 1).trans rfl, (blk_cell BK826.out 2).trans rfl, (blk_cell BK826.out 3).trans rfl, (blk_cell BK826.out 4).trans rfl⟩ (fun hHeld => ?_); refine with_tabW tolllaw06_RuleRanks_g3.tab2 tolllaw06_RuleRanks_g3.bits2 (fun HT_ HW_ => ?_)
        generalize w92.drew = w93 at HO832 HO835 HO841 HO844 HO850 HO853 BK824 BK825 BK826 HB hHeld ⊢
        refine take_ (i := 0) (N := some 16) (v := ?_) (a' := ?_) #[true, false, false, false, false, false, false, false, false, false, false, false] rfl rfl (take_ofW HT_.out HW_.out kr_) (fun _ _ _ h => h) (Or.inl ⟨by rfl, ?_⟩) hHeld ?_ ?_
        rotate_left
        ·rintro w' ⟨s0, s1, s2, s3, s4, s5, s6, s7, s8, s9, s10, s11, s12, s13, s14⟩
         go_simp
         with_reducible rfl
        rotate_left
        ·simp only [Act.put, sx_, s0_, s1_, i64_w, i32_w]
         rfl
        refine take_ (i := 1) (N := some 17) (v := ?_) (a' := ?_) #[true, true, false, false, false, false, false, false, false, false, false, false] rfl rfl (take_ofW HT_.out HW_.out kr_) (fun _ _ _ h => h) (Or.inl ⟨by rfl, ?_⟩) hHeld ?_ ?_
        rotate_left
        ·rintro w' ⟨s0, s1, s2, s3, s4, s5, s6, s7, s8, s9, s10, s11, s12, s13, s14⟩
         go_simp
         with_reducible rfl
        rotate_left
        ·simp only [Act.put, sx_, s0_, s1_, i64_w, i32_w]
         rfl
        refine take_ (i := 3) (N := some 19) (v := ?_) (a' := ?_) #[true, true, false, true, false, false, false, false, false, false, false, false] rfl rfl (take_ofW HT_.out HW_.out kr_) (fun _ _ _ h => h) (Or.inl ⟨by rfl, ?_⟩) hHeld ?_ ?_
        rotate_left
        ·rintro w' ⟨s0, s1, s2, s3, s4, s5, s6, s7, s8, s9, s10, s11, s12, s13, s14⟩
         go_simp
         with_reducible rfl
        rotate_left
        ·simp only [Act.put, sx_, s0_, s1_, i64_w, i32_w]
         rfl
        refine take_ (i := 4) (N := some 20) (v := ?_) (a' := ?_) #[true, true, false, true, true, false, false, false, false, false, false, false] rfl rfl (take_ofW HT_.out HW_.out kr_) (fun _ _ _ h => h) (Or.inl ⟨by rfl, ?_⟩) hHeld ?_ ?_
        rotate_left
        ·rintro w' ⟨s0, s1, s2, s3, s4, s5, s6, s7, s8, s9, s10, s11, s12, s13, s14⟩
         go_simp
         with_reducible rfl
        rotate_left
        ·simp only [Act.put, sx_, s0_, s1_, i64_w, i32_w]
         rfl
        refine take_ (i := 6) (N := some 22) (v := ?_) (a' := ?_) #[true, true, false, true, true, false, true, false, false, false, false, false] rfl rfl (take_ofW HT_.out HW_.out kr_) (fun _ _ _ h => h) (Or.inl ⟨by rfl, ?_⟩) hHeld ?_ ?_
        rotate_left
        ·rintro w' ⟨s0, s1, s2, s3, s4, s5, s6, s7, s8, s9, s10, s11, s12, s13, s14⟩
         go_simp
         with_reducible rfl
        rotate_left
        ·simp only [Act.put, sx_, s0_, s1_, i64_w, i32_w]
         rfl
        refine take_ (i := 7) (N := some 23) (v := ?_) (a' := ?_) #[true, true, false, true, true, false, true, true, false, false, false, false] rfl rfl (take_ofW HT_.out HW_.out kr_) (fun _ _ _ h => h) (Or.inl ⟨by rfl, ?_⟩) hHeld ?_ ?_
        rotate_left
        ·rintro w' ⟨s0, s1, s2, s3, s4, s5, s6, s7, s8, s9, s10, s11, s12, s13, s14⟩
         go_simp
         with_reducible rfl
        rotate_left
        ·simp only [Act.put, sx_, s0_, s1_, i64_w, i32_w]
         rfl
        refine one_ (i := 2) (N := some 18) #[true, true, true, true, true, false, true, true, false, false, false, false] rfl rfl (one_of HT_.out kr_) (by decide) (fun K hK => ?_)
        refine goes_ Tryd.func19 kr_ rfl #[.agg #[.int .i64 t827, .string t828, .string t829, .slice Ao74 t830.length co74, .slice Ao76 t833.length co76], .agg #[.int .i64 t836, .string t837, .string t838, .slice Ao81 t839.length co81, .slice Ao83 t842.length co83]] (by rfl) rfl rfl rl_ ?_
        with_reducible refine (rule_Order.calls t827 t828 t829 _ _ t830 _ _ t833 t836 t837 t838 _ _ t839 _ _ t842 t854 _ ?side1 ?side2 ?side3 ?side4 ?side5 ?side6 ?side7 ?side8 A7.out).mono ?_
        (case side1 => exact C_ (Kd.R_reads' HO832.out).2.2)
        (case side2 => exact (Kd.R_reads' HO832.out).2.1)
        (case side3 => exact C_ (Kd.R_reads' HO835.out).2.2)
        (case side4 => exact (Kd.R_reads' HO835.out).2.1)
        (case side5 => exact C_ (Kd.R_reads' HO841.out).2.2)
        (case side6 => exact (Kd.R_reads' HO841.out).2.1)
        (case side7 => exact C_ (Kd.R_reads' HO844.out).2.2)
        (case side8 => exact (Kd.R_reads' HO844.out).2.1)
        rintro e w94 ⟨rfl, hb⟩
        refine ⟨_, rfl, ?_⟩
        have n0_ := am_ (Kd.R_below (R_ HO832.out) hb)
        have n1_ := am_ (Kd.R_below (R_ HO835.out) hb)
        have n2_ := am_ (Kd.R_below (R_ HO841.out) hb)
        have n3_ := am_ (Kd.R_below (R_ HO844.out) hb)
        have n4_ := am_ (Kd.R_below (R_ HO850.out) hb)
        have n5_ := am_ (Kd.R_below (R_ HO853.out) hb)
        have n6_ := am_ (blk_below (g := gb824) (o := .cells #[.int .i64 t827, .string t828, .string t829, .slice Ao74 t830.length co74, .slice Ao76 t833.length co76] 26 (0, 0)) (blk_ BK824.out) hb)
        have n7_ := am_ (blk_below (g := gb825) (o := .cells #[.int .i64 t836, .string t837, .string t838, .slice Ao81 t839.length co81, .slice Ao83 t842.length co83] 26 (0, 0)) (blk_ BK825.out) hb)
        have n8_ := am_ (blk_below (g := gb826) (o := .cells #[.int .i64 t845, .string t846, .string t847, .slice Ao88 t848.length co88, .slice Ao90 t851.length co90] 26 (0, 0)) (blk_ BK826.out) hb)
        have n9_ := am_ (below_step (bel_ HB.out) hb)
        clear HO832 HO835 HO841 HO844 HO850 HO853 BK824 BK825 BK826 HB
        have HO832 := n0_
        have HO835 := n1_
        have HO841 := n2_
        have HO844 := n3_
        have HO850 := n4_
        have HO853 := n5_
        have BK824 := n6_
        have BK825 := n7_
        have BK826 := n8_
        have HB := n9_
        clear n0_ n1_ n2_ n3_ n4_ n5_ n6_ n7_ n8_ n9_
        (try clear hb)
        (try clear hb2)
        (try clear hk)
        (try clear hi)
        refine hK.out _ _ ⟨(blk_cell BK824.out 0).trans rfl, (blk_cell BK824.out 1).trans rfl, (blk_cell BK824.out 2).trans rfl, (blk_cell BK824.out 3).trans rfl, (blk_cell BK824.out 4).trans rfl, (blk_cell BK825.out 0).trans rfl, (blk_cell BK825.out 1).trans rfl, (blk_cell BK825.out 2).trans rfl, (blk_cell BK825.out 3).trans rfl, (blk_cell BK825.out 4).trans rfl, (blk_cell BK826.out 0).trans rfl, (blk_cell BK826.out 1).trans rfl, (blk_cell BK826.out 2).trans rfl, (blk_cell BK826.out 3).trans rfl, (blk_cell BK826.out 4).trans rfl⟩ (fun hHeld => ?_)
        clear hK K
        refine norm_ (a' := ?_) ?_ ?_
        rotate_left
        ·show Act.put _ (some 18) _ = _
         simp only [Act.put, sx_, s0_, s1_, i64_w, i32_w]
         rfl
        refine one_ (i := 5) (N := some 21) #[true, true, true, true, true, true, true, true, false, false, false, false] rfl rfl (one_of HT_.out kr_) (by decide) (fun K hK => ?_)
        refine goes_ Tryd.func19 kr_ rfl #[.agg #[.int .i64 t836, .string t837, .string t838, .slice Ao81 t839.length co81, .slice Ao83 t842.length co83], .agg #[.int .i64 t845, .string t846, .string t847, .slice Ao88 t848.length co88, .slice Ao90 t851.length co90]] (by rfl) rfl rfl rl_ ?_
        with_reducible refine (rule_Order.calls t836 t837 t838 _ _ t839 _ _ t842 t845 t846 t847 _ _ t848 _ _ t851 t855 _ ?side1 ?side2 ?side3 ?side4 ?side5 ?side6 ?side7 ?side8 A8.out).mono ?_
        (case side1 => exact C_ (Kd.R_reads' HO841.out).2.2)
        (case side2 => exact (Kd.R_reads' HO841.out).2.1)
        (case side3 => exact C_ (Kd.R_reads' HO844.out).2.2)
        (case side4 => exact (Kd.R_reads' HO844.out).2.1)
        (case side5 => exact C_ (Kd.R_reads' HO850.out).2.2)
        (case side6 => exact (Kd.R_reads' HO850.out).2.1)
        (case side7 => exact C_ (Kd.R_reads' HO853.out).2.2)
        (case side8 => exact (Kd.R_reads' HO853.out).2.1)
        rintro e w95 ⟨rfl, hb⟩
        refine ⟨_, rfl, ?_⟩
        have n0_ := am_ (Kd.R_below (R_ HO832.out) hb)
        have n1_ := am_ (Kd.R_below (R_ HO835.out) hb)
        have n2_ := am_ (Kd.R_below (R_ HO841.out) hb)
        have n3_ := am_ (Kd.R_below (R_ HO844.out) hb)
        have n4_ := am_ (Kd.R_below (R_ HO850.out) hb)
        have n5_ := am_ (Kd.R_below (R_ HO853.out) hb)
        have n6_ := am_ (blk_below (g := gb824) (o := .cells #[.int .i64 t827, .string t828, .string t829, .slice Ao74 t830.length co74, .slice Ao76 t833.length co76] 26 (0, 0)) (blk_ BK824.out) hb)
        have n7_ := am_ (blk_below (g := gb825) (o := .cells #[.int .i64 t836, .string t837, .string t838, .slice Ao81 t839.length co81, .slice Ao83 t842.length co83] 26 (0, 0)) (blk_ BK825.out) hb)
        have n8_ := am_ (blk_below (g := gb826) (o := .cells #[.int .i64 t845, .string t846, .string t847, .slice Ao88 t848.length co88, .slice Ao90 t851.length co90] 26 (0, 0)) (blk_ BK826.out) hb)
        have n9_ := am_ (below_step (bel_ HB.out) hb)
        clear HO832 HO835 HO841 HO844 HO850 HO853 BK824 BK825 BK826 HB
        have HO832 := n0_
        have HO835 := n1_
        have HO841 := n2_
        have HO844 := n3_
        have HO850 := n4_
        have HO853 := n5_
        have BK824 := n6_
        have BK825 := n7_
        have BK826 := n8_
        have HB := n9_
        clear n0_ n1_ n2_ n3_ n4_ n5_ n6_ n7_ n8_ n9_
        (try clear hb)
        (try clear hb2)
        (try clear hk)
        (try clear hi)
        refine hK.out _ _ ⟨(blk_cell BK824.out 0).trans rfl, (blk_cell BK824.out 1).trans rfl, (blk_cell BK824.out 2).trans rfl, (blk_cell BK824.out 3).trans rfl, (blk_cell BK824.out 4).trans rfl, (blk_cell BK825.out 0).trans rfl, (blk_cell BK825.out 1).trans rfl, (blk_cell BK825.out 2).trans rfl, (blk_cell BK825.out 3).trans rfl, (blk_cell BK825.out 4).trans rfl, (blk_cell BK826.out 0).trans rfl, (blk_cell BK826.out 1).trans rfl, (blk_cell BK826.out 2).trans rfl, (blk_cell BK826.out 3).trans rfl, (blk_cell BK826.out 4).trans rfl⟩ (fun hHeld => ?_)
        clear hK K
        refine norm_ (a' := ?_) ?_ ?_
        rotate_left
        ·show Act.put _ (some 21) _ = _
         simp only [Act.put, sx_, s0_, s1_, i64_w, i32_w]
         rfl
        refine one_ (i := 8) (N := some 24) #[true, true, true, true, true, true, true, true, true, false, false, false] rfl rfl (one_of HT_.out kr_) (by decide) (fun K hK => ?_)
        refine goes_ Tryd.func19 kr_ rfl #[.agg #[.int .i64 t827, .string t828, .string t829, .slice Ao74 t830.length co74, .slice Ao76 t833.length co76], .agg #[.int .i64 t845, .string t846, .string t847, .slice Ao88 t848.length co88, .slice Ao90 t851.length co90]] (by rfl) rfl rfl rl_ ?_
        with_reducible refine (rule_Order.calls t827 t828 t829 _ _ t830 _ _ t833 t845 t846 t847 _ _ t848 _ _ t851 t856 _ ?side1 ?side2 ?side3 ?side4 ?side5 ?side6 ?side7 ?side8 A9.out).mono ?_
        (case side1 => exact C_ (Kd.R_reads' HO832.out).2.2)
        (case side2 => exact (Kd.R_reads' HO832.out).2.1)
        (case side3 => exact C_ (Kd.R_reads' HO835.out).2.2)
        (case side4 => exact (Kd.R_reads' HO835.out).2.1)
        (case side5 => exact C_ (Kd.R_reads' HO850.out).2.2)
        (case side6 => exact (Kd.R_reads' HO850.out).2.1)
        (case side7 => exact C_ (Kd.R_reads' HO853.out).2.2)
        (case side8 => exact (Kd.R_reads' HO853.out).2.1)
        rintro e w96 ⟨rfl, hb⟩
        refine ⟨_, rfl, ?_⟩
        have n0_ := am_ (Kd.R_below (R_ HO832.out) hb)
        have n1_ := am_ (Kd.R_below (R_ HO835.out) hb)
        have n2_ := am_ (Kd.R_below (R_ HO841.out) hb)
        have n3_ := am_ (Kd.R_below (R_ HO844.out) hb)
        have n4_ := am_ (Kd.R_below (R_ HO850.out) hb)
        have n5_ := am_ (Kd.R_below (R_ HO853.out) hb)
        have n6_ := am_ (blk_below (g := gb824) (o := .cells #[.int .i64 t827, .string t828, .string t829, .slice Ao74 t830.length co74, .slice Ao76 t833.length co76] 26 (0, 0)) (blk_ BK824.out) hb)
        have n7_ := am_ (blk_below (g := gb825) (o := .cells #[.int .i64 t836, .string t837, .string t838, .slice Ao81 t839.length co81, .slice Ao83 t842.length co83] 26 (0, 0)) (blk_ BK825.out) hb)
        have n8_ := am_ (blk_below (g := gb826) (o := .cells #[.int .i64 t845, .string t846, .string t847, .slice Ao88 t848.length co88, .slice Ao90 t851.length co90] 26 (0, 0)) (blk_ BK826.out) hb)
        have n9_ := am_ (below_step (bel_ HB.out) hb)
        clear HO832 HO835 HO841 HO844 HO850 HO853 BK824 BK825 BK826 HB
        have HO832 := n0_
        have HO835 := n1_
        have HO841 := n2_
        have HO844 := n3_
        have HO850 := n4_
        have HO853 := n5_
        have BK824 := n6_
        have BK825 := n7_
        have BK826 := n8_
        have HB := n9_
        clear n0_ n1_ n2_ n3_ n4_ n5_ n6_ n7_ n8_ n9_
        (try clear hb)
        (try clear hb2)
        (try clear hk)
        (try clear hi)
        refine hK.out _ _ ⟨(blk_cell BK824.out 0).trans rfl, (blk_cell BK824.out 1).trans rfl, (blk_cell BK824.out 2).trans rfl, (blk_cell BK824.out 3).trans rfl, (blk_cell BK824.out 4).trans rfl, (blk_cell BK825.out 0).trans rfl, (blk_cell BK825.out 1).trans rfl, (blk_cell BK825.out 2).trans rfl, (blk_cell BK825.out 3).trans rfl, (blk_cell BK825.out 4).trans rfl, (blk_cell BK826.out 0).trans rfl, (blk_cell BK826.out 1).trans rfl, (blk_cell BK826.out 2).trans rfl, (blk_cell BK826.out 3).trans rfl, (blk_cell BK826.out 4).trans rfl⟩ (fun hHeld => ?_)
        clear hK K
        refine norm_ (a' := ?_) ?_ ?_
        rotate_left
        ·show Act.put _ (some 24) _ = _
         simp only [Act.put, sx_, s0_, s1_, i64_w, i32_w]
         rfl
        refine pure_ (i := 9) (N := some 7) (v := ?_) (a' := ?_) #[true, true, true, true, true, true, true, true, true, true, false, false] rfl rfl (any_of HT_.out kr_) (fun _ _ _ h => h) (Or.inl ⟨by rfl, ?_⟩) ?_ ?_
        rotate_left
        ·intro w'
         go_simp
         with_reducible rfl
        rotate_left
        ·simp only [Act.put, sx_, s0_, s1_, i64_w, i32_w]
         rfl
        refine pure_ (i := 10) (N := some 8) (v := ?_) (a' := ?_) #[true, true, true, true, true, true, true, true, true, true, true, false] rfl rfl (any_of HT_.out kr_) (fun _ _ _ h => h) (Or.inl ⟨by rfl, ?_⟩) ?_ ?_
        rotate_left
        ·intro w'
         go_simp
         with_reducible rfl
        rotate_left
        ·simp only [Act.put, sx_, s0_, s1_, i64_w, i32_w]
         rfl
        refine pure_ (i := 11) (N := some 9) (v := ?_) (a' := ?_) #[true, true, true, true, true, true, true, true, true, true, true, true] rfl rfl (any_of HT_.out kr_) (fun _ _ _ h => h) (Or.inl ⟨by rfl, ?_⟩) ?_ ?_
        rotate_left
        ·intro w'
         go_simp
         with_reducible rfl
        rotate_left
        ·simp only [Act.put, sx_, s0_, s1_, i64_w, i32_w]
         rfl
        refine done_ (done_of HT_.out kr_) ?_
        have hnb97 := NB825_824.out
        have hnc97 := NB824_825.out
        have hnb98 := NB825_826.out
        have hnc98 := NB826_825.out
        have hcz99_0 : w96.cell? ⟨gb825, 0, none⟩ = some (.int .i64 t836) := (blk_cell BK825.out 0).trans rfl
        have hcz99_1 : w96.cell? ⟨gb825, 1, none⟩ = some (.string t837) := (blk_cell BK825.out 1).trans rfl
        have hcz99_2 : w96.cell? ⟨gb825, 2, none⟩ = some (.string t838) := (blk_cell BK825.out 2).trans rfl
        have hcz99_3 : w96.cell? ⟨gb825, 3, none⟩ = some (.slice Ao81 t839.length co81) := (blk_cell BK825.out 3).trans rfl
        have hcz99_4 : w96.cell? ⟨gb825, 4, none⟩ = some (.slice Ao83 t842.length co83) := (blk_cell BK825.out 4).trans rfl
        have hfz99_0 := blk_frozen BK825.out 0
        have hfz99_1 := blk_frozen BK825.out 1
        have hfz99_2 := blk_frozen BK825.out 2
        have hfz99_3 := blk_frozen BK825.out 3
        have hfz99_4 := blk_frozen BK825.out 4
        have hnb100 := NB824_826.out
        have hnc100 := NB826_824.out
        have hcz101_0 : w96.cell? ⟨gb824, 0, none⟩ = some (.int .i64 t827) := (blk_cell BK824.out 0).trans rfl
        have hcz101_1 : w96.cell? ⟨gb824, 1, none⟩ = some (.string t828) := (blk_cell BK824.out 1).trans rfl
        have hcz101_2 : w96.cell? ⟨gb824, 2, none⟩ = some (.string t829) := (blk_cell BK824.out 2).trans rfl
        have hcz101_3 : w96.cell? ⟨gb824, 3, none⟩ = some (.slice Ao74 t830.length co74) := (blk_cell BK824.out 3).trans rfl
        have hcz101_4 : w96.cell? ⟨gb824, 4, none⟩ = some (.slice Ao76 t833.length co76) := (blk_cell BK824.out 4).trans rfl
        have hfz101_0 := blk_frozen BK824.out 0
        have hfz101_1 := blk_frozen BK824.out 1
        have hfz101_2 := blk_frozen BK824.out 2
        have hfz101_3 := blk_frozen BK824.out 3
        have hfz101_4 := blk_frozen BK824.out 4
        try go_wp2_with (first | ((with_reducible refine gate_callee (f := 19) rfl ?_); refine goesL_ (some 27) rfl rfl Tryd.func19 kr_ rfl #[.agg #[.int .i64 t836, .string t837, .string t838, .slice Ao81 t839.length co81, .slice Ao83 t842.length co83], .agg #[.int .i64 t827, .string t828, .string t829, .slice Ao74 t830.length co74, .slice Ao76 t833.length co76]] rfl rl_ ?_; (with_reducible refine (rule_Order.calls t836 t837 t838 _ _ t839 _ _ t842 t827 t828 t829 _ _ t830 _ _ t833 t857 _ ?side1 ?side2 ?side3 ?side4 ?side5 ?side6 ?side7 ?side8 A10.out).mono ?_); (case side1 => exact C_ (Kd.R_reads' HO841.out).2.2); (case side2 => exact (Kd.R_reads' HO841.out).2.1); (case side3 => exact C_ (Kd.R_reads' HO844.out).2.2); (case side4 => exact (Kd.R_reads' HO844.out).2.1); (case side5 => exact C_ (Kd.R_reads' HO832.out).2.2); (case side6 => exact (Kd.R_reads' HO832.out).2.1); (case side7 => exact C_ (Kd.R_reads' HO835.out).2.2); (case side8 => exact (Kd.R_reads' HO835.out).2.1); rintro e w102 ⟨rfl, hb⟩; refine ⟨_, rfl, ?_⟩; have n0_ := am_ (Kd.R_below (R_ HO832.out) hb); have n1_ := am_ (Kd.R_below (R_ HO835.out) hb); have n2_ := am_ (Kd.R_below (R_ HO841.out) hb); have n3_ := am_ (Kd.R_below (R_ HO844.out) hb); have n4_ := am_ (Kd.R_below (R_ HO850.out) hb); have n5_ := am_ (Kd.R_below (R_ HO853.out) hb); have n6_ := am_ (blk_below (g := gb824) (o := .cells #[.int .i64 t827, .string t828, .string t829, .slice Ao74 t830.length co74, .slice Ao76 t833.length co76] 26 (0, 0)) (blk_ BK824.out) hb); have n7_ := am_ (blk_below (g := gb825) (o := .cells #[.int .i64 t836, .string t837, .string t838, .slice Ao81 t839.length co81, .slice Ao83 t842.length co83] 26 (0, 0)) (blk_ BK825.out) hb); have n8_ := am_ (blk_below (g := gb826) (o := .cells #[.int .i64 t845, .string t846, .string t847, .slice Ao88 t848.length co88, .slice Ao90 t851.length co90] 26 (0, 0)) (blk_ BK826.out) hb); have n9_ := am_ (below_step (bel_ HB.out) hb); clear HO832 HO835 HO841 HO844 HO850 HO853 BK824 BK825 BK826 HB; have HO832 := n0_; have HO835 := n1_; have HO841 := n2_; have HO844 := n3_; have HO850 := n4_; have HO853 := n5_; have BK824 := n6_; have BK825 := n7_; have BK826 := n8_; have HB := n9_; clear n0_ n1_ n2_ n3_ n4_ n5_ n6_ n7_ n8_ n9_; (try clear hb); (try clear hb2); (try clear hk); (try clear hi); have hcz103_0 : w102.cell? ⟨gb824, 0, none⟩ = some (.int .i64 t827) := (blk_cell BK824.out 0).trans rfl; have hcz103_1 : w102.cell? ⟨gb824, 1, none⟩ = some (.string t828) := (blk_cell BK824.out 1).trans rfl; have hcz103_2 : w102.cell? ⟨gb824, 2, none⟩ = some (.string t829) := (blk_cell BK824.out 2).trans rfl; have hcz103_3 : w102.cell? ⟨gb824, 3, none⟩ = some (.slice Ao74 t830.length co74) := (blk_cell BK824.out 3).trans rfl; have hcz103_4 : w102.cell? ⟨gb824, 4, none⟩ = some (.slice Ao76 t833.length co76) := (blk_cell BK824.out 4).trans rfl; have hfz103_0 := blk_frozen BK824.out 0; have hfz103_1 := blk_frozen BK824.out 1; have hfz103_2 := blk_frozen BK824.out 2; have hfz103_3 := blk_frozen BK824.out 3; have hfz103_4 := blk_frozen BK824.out 4) | (go_at_call 19; (with_reducible refine (rule_Order.calls t827 t828 t829 _ _ t830 _ _ t833 t827 t828 t829 _ _ t830 _ _ t833 t858 _ ?side1 ?side2 ?side3 ?side4 ?side5 ?side6 ?side7 ?side8 A12.out).mono ?_); (case side1 => exact C_ (Kd.R_reads' HO832.out).2.2); (case side2 => exact (Kd.R_reads' HO832.out).2.1); (case side3 => exact C_ (Kd.R_reads' HO835.out).2.2); (case side4 => exact (Kd.R_reads' HO835.out).2.1); (case side5 => exact C_ (Kd.R_reads' HO832.out).2.2); (case side6 => exact (Kd.R_reads' HO832.out).2.1); (case side7 => exact C_ (Kd.R_reads' HO835.out).2.2); (case side8 => exact (Kd.R_reads' HO835.out).2.1); rintro e w104 ⟨rfl, hb⟩; have n0_ := am_ (Kd.R_below (R_ HO832.out) hb); have n1_ := am_ (Kd.R_below (R_ HO835.out) hb); have n2_ := am_ (Kd.R_below (R_ HO841.out) hb); have n3_ := am_ (Kd.R_below (R_ HO844.out) hb); have n4_ := am_ (Kd.R_below (R_ HO850.out) hb); have n5_ := am_ (Kd.R_below (R_ HO853.out) hb); have n6_ := am_ (blk_below (g := gb824) (o := .cells #[.int .i64 t827, .string t828, .string t829, .slice Ao74 t830.length co74, .slice Ao76 t833.length co76] 26 (0, 0)) (blk_ BK824.out) hb); have n7_ := am_ (blk_below (g := gb825) (o := .cells #[.int .i64 t836, .string t837, .string t838, .slice Ao81 t839.length co81, .slice Ao83 t842.length co83] 26 (0, 0)) (blk_ BK825.out) hb); have n8_ := am_ (blk_below (g := gb826) (o := .cells #[.int .i64 t845, .string t846, .string t847, .slice Ao88 t848.length co88, .slice Ao90 t851.length co90] 26 (0, 0)) (blk_ BK826.out) hb); have n9_ := am_ (below_step (bel_ HB.out) hb); clear HO832 HO835 HO841 HO844 HO850 HO853 BK824 BK825 BK826 HB; have HO832 := n0_; have HO835 := n1_; have HO841 := n2_; have HO844 := n3_; have HO850 := n4_; have HO853 := n5_; have BK824 := n6_; have BK825 := n7_; have BK826 := n8_; have HB := n9_; clear n0_ n1_ n2_ n3_ n4_ n5_ n6_ n7_ n8_ n9_; (try clear hb); (try clear hb2); (try clear hk); (try clear hi)) | ((with_reducible refine gate_callee (f := 18) rfl ?_); refine goesL_ (some 73) rfl rfl Tryd.func18 kr_ rfl #[] rfl rl_ ?_; (with_reducible refine (tolllaw06_awake.calls  t869 _ A63.out).mono ?_); rintro e w105 ⟨rfl, hb⟩; refine ⟨_, rfl, ?_⟩; have n0_ := am_ (Kd.R_below (R_ HO832.out) hb); have n1_ := am_ (Kd.R_below (R_ HO835.out) hb); have n2_ := am_ (Kd.R_below (R_ HO841.out) hb); have n3_ := am_ (Kd.R_below (R_ HO844.out) hb); have n4_ := am_ (Kd.R_below (R_ HO850.out) hb); have n5_ := am_ (Kd.R_below (R_ HO853.out) hb); have n6_ := am_ (blk_below (g := gb824) (o := .cells #[.int .i64 t827, .string t828, .string t829, .slice Ao74 t830.length co74, .slice Ao76 t833.length co76] 26 (0, 0)) (blk_ BK824.out) hb); have n7_ := am_ (blk_below (g := gb825) (o := .cells #[.int .i64 t836, .string t837, .string t838, .slice Ao81 t839.length co81, .slice Ao83 t842.length co83] 26 (0, 0)) (blk_ BK825.out) hb); have n8_ := am_ (blk_below (g := gb826) (o := .cells #[.int .i64 t845, .string t846, .string t847, .slice Ao88 t848.length co88, .slice Ao90 t851.length co90] 26 (0, 0)) (blk_ BK826.out) hb); have n9_ := am_ (below_step (bel_ HB.out) hb); clear HO832 HO835 HO841 HO844 HO850 HO853 BK824 BK825 BK826 HB; have HO832 := n0_; have HO835 := n1_; have HO841 := n2_; have HO844 := n3_; have HO850 := n4_; have HO853 := n5_; have BK824 := n6_; have BK825 := n7_; have BK826 := n8_; have HB := n9_; clear n0_ n1_ n2_ n3_ n4_ n5_ n6_ n7_ n8_ n9_; (try clear hb); (try clear hb2); (try clear hk); (try clear hi)))
        go_ret
        exact ⟨fi_, bel_ HB.out⟩
      ·rw [if_neg c61] at H
       exact absurd H (by simp)
   ·rw [if_neg c14] at H
    exact absurd H (by simp)
  ·rw [if_neg c13] at H
   exact absurd H (by simp)
 ·rw [if_neg c11] at H
  exact absurd H (by simp)

end Go.Proofs.YtompldnifiieaaaDoor.P
