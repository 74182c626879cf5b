-- written by wip/tool/hprint.py of this repo: the kit's print, with contracts by hand joined; Lean checks it.
import Derived.Test.YtompldnifiieaaaDoorPx0
import Derived.Test.YtompldnifiieaaaDoorPx1
import Derived.Test.YtompldnifiieaaaDoorPx5
import Derived.Test.YtompldnifiieaaaDoorPx7
import Derived.Test.YtompldnifiieaaaDoorPx16
import Derived.Test.YtompldnifiieaaaDoorPx17
import Derived.Test.YtompldnifiieaaaDoorPx18
import Derived.Test.YtompldnifiieaaaDoorPx19
namespace Go.Proofs.YtompldnifiieaaaDoor.P
open Go.RowKit Go.Proofs.YtompldnifiieaaaDoorW.PrintWords Go.Proofs.YtompldnifiieaaaDoorW.PrintLast Go.Proofs.YtompldnifiieaaaDoorW.PrintMore
attribute [local go_sem] max2_int min2_int max_two min_two max_three min_three max_four min_four   -- for this text's walks alone
set_option linter.unusedVariables false
set_option linter.unusedSimpArgs false

/-! ### tolllaw06_RuleRanks_g5: function 4 -/
noncomputable def tolllaw06_RuleRanks_g5.f (k : Nat) (a0_0 : Int) (a0_1 : ByteArray) (a0_2 : ByteArray) (l0_3 : List (S49)) (l0_4 : List (S49)) (a1_0 : Int) (a1_1 : ByteArray) (a1_2 : ByteArray) (l1_3 : List (S49)) (l1_4 : List (S49)) (a2_0 : Int) (a2_1 : ByteArray) (a2_2 : ByteArray) (l2_3 : List (S49)) (l2_4 : List (S49)) : Option (Bool) := (tolllaw06_Few.f k a0_0 a0_1 a0_2 l0_3 l0_4).bind fun bt939 => ((tolllaw06_Few.f k a1_0 a1_1 a1_2 l1_3 l1_4).bind fun bt948 => ((tolllaw06_Few.f k a2_0 a2_1 a2_2 l2_3 l2_4).bind fun bt957 => ((rule_Order.f bt939.1 bt939.2.1 bt939.2.2.1 bt939.2.2.2.1 bt939.2.2.2.2 bt948.1 bt948.2.1 bt948.2.2.1 bt948.2.2.2.1 bt948.2.2.2.2).bind fun t966 => ((rule_Order.f bt948.1 bt948.2.1 bt948.2.2.1 bt948.2.2.2.1 bt948.2.2.2.2 bt957.1 bt957.2.1 bt957.2.2.1 bt957.2.2.2.1 bt957.2.2.2.2).bind fun t967 => ((rule_Order.f bt939.1 bt939.2.1 bt939.2.2.1 bt939.2.2.2.1 bt939.2.2.2.2 bt957.1 bt957.2.1 bt957.2.2.1 bt957.2.2.2.1 bt957.2.2.2.2).bind fun t968 => ((rule_Order.f bt948.1 bt948.2.1 bt948.2.2.1 bt948.2.2.2.1 bt948.2.2.2.2 bt939.1 bt939.2.1 bt939.2.2.1 bt939.2.2.2.1 bt939.2.2.2.2).bind fun t969 => (if t969 = (wrap64 (-t966)) then ((rule_Order.f bt939.1 bt939.2.1 bt939.2.2.1 bt939.2.2.2.1 bt939.2.2.2.2 bt939.1 bt939.2.1 bt939.2.2.1 bt939.2.2.2.1 bt939.2.2.2.2).bind fun t970 => (if t970 = 0 then (if t966 ≤ 0 then (none) else (if t966 < 0 then (none) else (if t966 = 0 then (none) else ((tolllaw06_awake.f).bind fun t991 => (some t991))))) else (none))) else (none))))))))
theorem tolllaw06_RuleRanks_g5.mono : ∀ a0 a1 a2 a3 a4 a5 a6 a7 a8 a9 a10 a11 a12 a13 a14 k, LeO (tolllaw06_RuleRanks_g5.f k a0 a1 a2 a3 a4 a5 a6 a7 a8 a9 a10 a11 a12 a13 a14) (tolllaw06_RuleRanks_g5.f (k + 1) a0 a1 a2 a3 a4 a5 a6 a7 a8 a9 a10 a11 a12 a13 a14) := by
 intro a0 a1 a2 a3 a4 a5 a6 a7 a8 a9 a10 a11 a12 a13 a14 k
 unfold tolllaw06_RuleRanks_g5.f
 repeat' first
   | (with_reducible exact tolllaw06_Few.mono _ _ _ _ _ _)
   | (with_reducible exact LeO.refl _)
   | (with_reducible exact LeO.none _)
   | (with_reducible refine LeO.ite ?_ ?_)
   | (with_reducible refine LeO.bind ?_ (fun _ => ?_))
   | exact tolllaw06_Few.mono _ _ _ _ _ _
   | exact LeO.none _
   | refine LeO.ite ?_ ?_
   | refine LeO.bind ?_ (fun _ => ?_)
noncomputable def tolllaw06_RuleRanks_g5.T1 : Bool × List (List Nat × List Nat) := (true, [([], []), ([0], [0]), ([], []), ([2, 1], [2]), ([], []), ([4, 3], [4]), ([1, 5, 0, 1], [1]), ([3, 6, 0, 1, 2, 3, 6], [3]), ([5, 7, 0, 1, 2, 3, 4, 5, 6, 7], [5])])
noncomputable def tolllaw06_RuleRanks_g5.B1 : List Nat := [0, 1, 0, 7, 0, 31, 63, 127, 255]
theorem tolllaw06_RuleRanks_g5.tab1 : rtab .any (opsOf Tryd.f4 1) = tolllaw06_RuleRanks_g5.T1 := by kernel_rfl
theorem tolllaw06_RuleRanks_g5.bits1 : waitsOk tolllaw06_RuleRanks_g5.T1.2 tolllaw06_RuleRanks_g5.B1 = true := by kernel_rfl
noncomputable def tolllaw06_RuleRanks_g5.T2 : Bool × List (List Nat × List Nat) := (true, [([], []), ([], []), ([0, 1], [0, 1]), ([], []), ([], []), ([3, 4, 2], [3, 4]), ([], []), ([], []), ([6, 7, 5], [6, 7]), ([2, 8, 0, 1, 2], [2]), ([5, 9, 0, 1, 2, 3, 4, 5, 9], [5]), ([8, 10, 0, 1, 2, 3, 4, 5, 6, 7, 8, 9, 10], [8])])
noncomputable def tolllaw06_RuleRanks_g5.B2 : List Nat := [0, 0, 3, 0, 0, 31, 0, 0, 255, 511, 1023, 2047]
theorem tolllaw06_RuleRanks_g5.tab2 : rtab .any (opsOf Tryd.f4 2) = tolllaw06_RuleRanks_g5.T2 := by kernel_rfl
theorem tolllaw06_RuleRanks_g5.bits2 : waitsOk tolllaw06_RuleRanks_g5.T2.2 tolllaw06_RuleRanks_g5.B2 = true := by kernel_rfl
set_option maxHeartbeats 6000000 in
set_option maxRecDepth 100000 in
theorem tolllaw06_RuleRanks_g5.calls (k : Nat) (a0_0 : Int) (a0_1 : ByteArray) (a0_2 : ByteArray) (A0_3 : Option Addr) (c0_3 : Nat) (l0_3 : List (S49)) (A0_4 : Option Addr) (c0_4 : Nat) (l0_4 : List (S49)) (a1_0 : Int) (a1_1 : ByteArray) (a1_2 : ByteArray) (A1_3 : Option Addr) (c1_3 : Nat) (l1_3 : List (S49)) (A1_4 : Option Addr) (c1_4 : Nat) (l1_4 : List (S49)) (a2_0 : Int) (a2_1 : ByteArray) (a2_2 : ByteArray) (A2_3 : Option Addr) (c2_3 : Nat) (l2_3 : List (S49)) (A2_4 : Option Addr) (c2_4 : Nat) (l2_4 : List (S49)) (r : Bool) (w : World) (hr0_3 : Kd.C k49 w A0_3 l0_3.length l0_3) (hc0_3 : l0_3.length ≤ c0_3) (hr0_4 : Kd.C k49 w A0_4 l0_4.length l0_4) (hc0_4 : l0_4.length ≤ c0_4) (hr1_3 : Kd.C k49 w A1_3 l1_3.length l1_3) (hc1_3 : l1_3.length ≤ c1_3) (hr1_4 : Kd.C k49 w A1_4 l1_4.length l1_4) (hc1_4 : l1_4.length ≤ c1_4) (hr2_3 : Kd.C k49 w A2_3 l2_3.length l2_3) (hc2_3 : l2_3.length ≤ c2_3) (hr2_4 : Kd.C k49 w A2_4 l2_4.length l2_4) (hc2_4 : l2_4.length ≤ c2_4) (h : tolllaw06_RuleRanks_g5.f k a0_0 a0_1 a0_2 l0_3 l0_4 a1_0 a1_1 a1_2 l1_3 l1_4 a2_0 a2_1 a2_2 l2_3 l2_4 = some r) :
  Calls Tryd.prog 4 #[.agg #[.int .i64 a0_0, .string a0_1, .string a0_2, .slice A0_3 l0_3.length c0_3, .slice A0_4 l0_4.length c0_4], .agg #[.int .i64 a1_0, .string a1_1, .string a1_2, .slice A1_3 l1_3.length c1_3, .slice A1_4 l1_4.length c1_4], .agg #[.int .i64 a2_0, .string a2_1, .string a2_2, .slice A2_3 l2_3.length c2_3, .slice A2_4 l2_4.length c2_4]] w fun e w' => e = .returned (.bool r) ∧ Below w.heap.size w w' := by
 have hu26 := Tryd.underlying26
 have HR0_3 := Aside0.mk hr0_3
 have HC0_3 := Aside0.mk hc0_3
 clear hr0_3 hc0_3
 have HR0_4 := Aside0.mk hr0_4
 have HC0_4 := Aside0.mk hc0_4
 clear hr0_4 hc0_4
 have HR1_3 := Aside0.mk hr1_3
 have HC1_3 := Aside0.mk hc1_3
 clear hr1_3 hc1_3
 have HR1_4 := Aside0.mk hr1_4
 have HC1_4 := Aside0.mk hc1_4
 clear hr1_4 hc1_4
 have HR2_3 := Aside0.mk hr2_3
 have HC2_3 := Aside0.mk hc2_3
 clear hr2_3 hc2_3
 have HR2_4 := Aside0.mk hr2_4
 have HC2_4 := Aside0.mk hc2_4
 clear hr2_4 hc2_4
 have HB := am_ (Below.refl w.heap.size w)
 have H : ((tolllaw06_Few.f k a0_0 a0_1 a0_2 l0_3 l0_4).bind fun bt939 => ((tolllaw06_Few.f k a1_0 a1_1 a1_2 l1_3 l1_4).bind fun bt948 => ((tolllaw06_Few.f k a2_0 a2_1 a2_2 l2_3 l2_4).bind fun bt957 => ((rule_Order.f bt939.1 bt939.2.1 bt939.2.2.1 bt939.2.2.2.1 bt939.2.2.2.2 bt948.1 bt948.2.1 bt948.2.2.1 bt948.2.2.2.1 bt948.2.2.2.2).bind fun t966 => ((rule_Order.f bt948.1 bt948.2.1 bt948.2.2.1 bt948.2.2.2.1 bt948.2.2.2.2 bt957.1 bt957.2.1 bt957.2.2.1 bt957.2.2.2.1 bt957.2.2.2.2).bind fun t967 => ((rule_Order.f bt939.1 bt939.2.1 bt939.2.2.1 bt939.2.2.2.1 bt939.2.2.2.2 bt957.1 bt957.2.1 bt957.2.2.1 bt957.2.2.2.1 bt957.2.2.2.2).bind fun t968 => ((rule_Order.f bt948.1 bt948.2.1 bt948.2.2.1 bt948.2.2.2.1 bt948.2.2.2.2 bt939.1 bt939.2.1 bt939.2.2.1 bt939.2.2.2.1 bt939.2.2.2.2).bind fun t969 => (if t969 = (wrap64 (-t966)) then ((rule_Order.f bt939.1 bt939.2.1 bt939.2.2.1 bt939.2.2.2.1 bt939.2.2.2.2 bt939.1 bt939.2.1 bt939.2.2.1 bt939.2.2.2.1 bt939.2.2.2.2).bind fun t970 => (if t970 = 0 then (if t966 ≤ 0 then (none) else (if t966 < 0 then (none) else (if t966 = 0 then (none) else ((tolllaw06_awake.f).bind fun t991 => (some t991))))) else (none))) else (none))))))))) = some r := h
 clear h
 replace H := Option.bind_eq_some_iff.mp H
 obtain ⟨⟨t939, t940, t941, t942, t945⟩, A40, H⟩ := H
 replace H : ((tolllaw06_Few.f k a1_0 a1_1 a1_2 l1_3 l1_4).bind fun bt948 => ((tolllaw06_Few.f k a2_0 a2_1 a2_2 l2_3 l2_4).bind fun bt957 => ((rule_Order.f t939 t940 t941 t942 t945 bt948.1 bt948.2.1 bt948.2.2.1 bt948.2.2.2.1 bt948.2.2.2.2).bind fun t966 => ((rule_Order.f bt948.1 bt948.2.1 bt948.2.2.1 bt948.2.2.2.1 bt948.2.2.2.2 bt957.1 bt957.2.1 bt957.2.2.1 bt957.2.2.2.1 bt957.2.2.2.2).bind fun t967 => ((rule_Order.f t939 t940 t941 t942 t945 bt957.1 bt957.2.1 bt957.2.2.1 bt957.2.2.2.1 bt957.2.2.2.2).bind fun t968 => ((rule_Order.f bt948.1 bt948.2.1 bt948.2.2.1 bt948.2.2.2.1 bt948.2.2.2.2 t939 t940 t941 t942 t945).bind fun t969 => (if t969 = (wrap64 (-t966)) then ((rule_Order.f t939 t940 t941 t942 t945 t939 t940 t941 t942 t945).bind fun t970 => (if t970 = 0 then (if t966 ≤ 0 then (none) else (if t966 < 0 then (none) else (if t966 = 0 then (none) else ((tolllaw06_awake.f).bind fun t991 => (some t991))))) else (none))) else (none)))))))) = some r := H
 have A4 := Aside0.mk A40
 clear A40
 replace H := Option.bind_eq_some_iff.mp H
 obtain ⟨⟨t948, t949, t950, t951, t954⟩, A50, H⟩ := H
 replace H : ((tolllaw06_Few.f k a2_0 a2_1 a2_2 l2_3 l2_4).bind fun bt957 => ((rule_Order.f t939 t940 t941 t942 t945 t948 t949 t950 t951 t954).bind fun t966 => ((rule_Order.f t948 t949 t950 t951 t954 bt957.1 bt957.2.1 bt957.2.2.1 bt957.2.2.2.1 bt957.2.2.2.2).bind fun t967 => ((rule_Order.f t939 t940 t941 t942 t945 bt957.1 bt957.2.1 bt957.2.2.1 bt957.2.2.2.1 bt957.2.2.2.2).bind fun t968 => ((rule_Order.f t948 t949 t950 t951 t954 t939 t940 t941 t942 t945).bind fun t969 => (if t969 = (wrap64 (-t966)) then ((rule_Order.f t939 t940 t941 t942 t945 t939 t940 t941 t942 t945).bind fun t970 => (if t970 = 0 then (if t966 ≤ 0 then (none) else (if t966 < 0 then (none) else (if t966 = 0 then (none) else ((tolllaw06_awake.f).bind fun t991 => (some t991))))) else (none))) else (none))))))) = some r := H
 have A5 := Aside0.mk A50
 clear A50
 replace H := Option.bind_eq_some_iff.mp H
 obtain ⟨⟨t957, t958, t959, t960, t963⟩, A60, H⟩ := H
 replace H : ((rule_Order.f t939 t940 t941 t942 t945 t948 t949 t950 t951 t954).bind fun t966 => ((rule_Order.f t948 t949 t950 t951 t954 t957 t958 t959 t960 t963).bind fun t967 => ((rule_Order.f t939 t940 t941 t942 t945 t957 t958 t959 t960 t963).bind fun t968 => ((rule_Order.f t948 t949 t950 t951 t954 t939 t940 t941 t942 t945).bind fun t969 => (if t969 = (wrap64 (-t966)) then ((rule_Order.f t939 t940 t941 t942 t945 t939 t940 t941 t942 t945).bind fun t970 => (if t970 = 0 then (if t966 ≤ 0 then (none) else (if t966 < 0 then (none) else (if t966 = 0 then (none) else ((tolllaw06_awake.f).bind fun t991 => (some t991))))) else (none))) else (none)))))) = some r := H
 have A6 := Aside0.mk A60
 clear A60
 replace H := Option.bind_eq_some_iff.mp H
 obtain ⟨t966, A70, H⟩ := H
 replace H : ((rule_Order.f t948 t949 t950 t951 t954 t957 t958 t959 t960 t963).bind fun t967 => ((rule_Order.f t939 t940 t941 t942 t945 t957 t958 t959 t960 t963).bind fun t968 => ((rule_Order.f t948 t949 t950 t951 t954 t939 t940 t941 t942 t945).bind fun t969 => (if t969 = (wrap64 (-t966)) then ((rule_Order.f t939 t940 t941 t942 t945 t939 t940 t941 t942 t945).bind fun t970 => (if t970 = 0 then (if t966 ≤ 0 then (none) else (if t966 < 0 then (none) else (if t966 = 0 then (none) else ((tolllaw06_awake.f).bind fun t991 => (some t991))))) else (none))) else (none))))) = some r := H
 have A7 := Aside0.mk A70
 clear A70
 replace H := Option.bind_eq_some_iff.mp H
 obtain ⟨t967, A80, H⟩ := H
 replace H : ((rule_Order.f t939 t940 t941 t942 t945 t957 t958 t959 t960 t963).bind fun t968 => ((rule_Order.f t948 t949 t950 t951 t954 t939 t940 t941 t942 t945).bind fun t969 => (if t969 = (wrap64 (-t966)) then ((rule_Order.f t939 t940 t941 t942 t945 t939 t940 t941 t942 t945).bind fun t970 => (if t970 = 0 then (if t966 ≤ 0 then (none) else (if t966 < 0 then (none) else (if t966 = 0 then (none) else ((tolllaw06_awake.f).bind fun t991 => (some t991))))) else (none))) else (none)))) = some r := H
 have A8 := Aside0.mk A80
 clear A80
 replace H := Option.bind_eq_some_iff.mp H
 obtain ⟨t968, A90, H⟩ := H
 replace H : ((rule_Order.f t948 t949 t950 t951 t954 t939 t940 t941 t942 t945).bind fun t969 => (if t969 = (wrap64 (-t966)) then ((rule_Order.f t939 t940 t941 t942 t945 t939 t940 t941 t942 t945).bind fun t970 => (if t970 = 0 then (if t966 ≤ 0 then (none) else (if t966 < 0 then (none) else (if t966 = 0 then (none) else ((tolllaw06_awake.f).bind fun t991 => (some t991))))) else (none))) else (none))) = some r := H
 have A9 := Aside0.mk A90
 clear A90
 replace H := Option.bind_eq_some_iff.mp H
 obtain ⟨t969, A100, H⟩ := H
 replace H : (if t969 = (wrap64 (-t966)) then ((rule_Order.f t939 t940 t941 t942 t945 t939 t940 t941 t942 t945).bind fun t970 => (if t970 = 0 then (if t966 ≤ 0 then (none) else (if t966 < 0 then (none) else (if t966 = 0 then (none) else ((tolllaw06_awake.f).bind fun t991 => (some t991))))) else (none))) else (none)) = some r := H
 have A10 := Aside0.mk A100
 clear A100
 by_cases c11 : t969 = (wrap64 (-t966))
 ·rw [if_pos c11] at H
  have c11b0 : (t969 == (wrap64 (-t966))) = true := beq_iff_eq.mpr c11
  have c11b1 : (t969 != (wrap64 (-t966))) = false := bne_eq_false_iff_eq.mpr c11
  clear c11
  replace H := Option.bind_eq_some_iff.mp H
  obtain ⟨t970, A120, H⟩ := H
  replace H : (if t970 = 0 then (if t966 ≤ 0 then (none) else (if t966 < 0 then (none) else (if t966 = 0 then (none) else ((tolllaw06_awake.f).bind fun t991 => (some t991))))) else (none)) = some r := H
  have A12 := Aside0.mk A120
  clear A120
  by_cases c13 : t970 = 0
  ·rw [if_pos c13] at H
   have c13b0 : (t970 == 0) = true := beq_iff_eq.mpr c13
   have c13b1 : (t970 != 0) = false := bne_eq_false_iff_eq.mpr c13
   clear c13
   by_cases c14 : t966 ≤ 0
   ·rw [if_pos c14] at H
    exact absurd H (by simp)
   ·rw [if_neg c14] at H
    have c14b0 : decide (t966 ≤ 0) = false := decide_eq_false c14
    clear c14
    by_cases c15 : t966 < 0
    ·rw [if_pos c15] at H
     exact absurd H (by simp)
    ·rw [if_neg c15] at H
     have c15b0 : decide (t966 < 0) = false := decide_eq_false c15
     clear c15
     by_cases c16 : t966 = 0
     ·rw [if_pos c16] at H
      exact absurd H (by simp)
     ·rw [if_neg c16] at H
      have c16b0 : (t966 == 0) = false := beq_eq_false_iff_ne.mpr c16
      have c16b1 : (t966 != 0) = true := bne_iff_ne.mpr c16
      replace H := Option.bind_eq_some_iff.mp H
      obtain ⟨t991, A170, H⟩ := H
      replace H : (some t991) = some r := H
      have A17 := Aside0.mk A170
      clear A170
      obtain rfl := Option.some.inj H
      go_enter Tryd.func4, Tryd.ntmps4
      try go_wp2_with (first | ((with_reducible refine gate_dst (N := 3) rfl ?_); refine box_event ?hg (N := 3) ?hd (cs := #[.int .i64 a0_0, .string a0_1, .string a0_2, .slice A0_3 l0_3.length c0_3, .slice A0_4 l0_4.length c0_4]) (t := 26) ?hr ?_; (case hd => rfl); (case hg => rfl); (case hr => first | (go_simp; done) | (go_simp; rfl)); intro gb936 hg w18 hbox hb; have n0_ := am_ (below_step (bel_ HB.out) hb); have n1_ := am_ (hbox); have n2_ := am_ ((by rw [hg]; exact (below_size (bel_ HB.out)) : w.heap.size ≤ gb936)); have n3_ := am_ ((by rw [hg]; exact (below_size (bel_ HB.out)) : w.heap.size ≤ gb936)); clear HB; have HB := n0_; have BK936 := n1_; have GW936 := n2_; have GE936 := n3_; clear n0_ n1_ n2_ n3_ hb hbox hg) | ((with_reducible refine gate_dst (N := 4) rfl ?_); refine box_event ?hg (N := 4) ?hd (cs := #[.int .i64 a1_0, .string a1_1, .string a1_2, .slice A1_3 l1_3.length c1_3, .slice A1_4 l1_4.length c1_4]) (t := 26) ?hr ?_; (case hd => rfl); (case hg => rfl); (case hr => first | (go_simp; done) | (go_simp; rfl)); intro gb937 hg w19 hbox hb; have n0_ := am_ (blk_below (g := gb936) (o := .cells #[.int .i64 a0_0, .string a0_1, .string a0_2, .slice A0_3 l0_3.length c0_3, .slice A0_4 l0_4.length c0_4] 26 (0, 0)) (blk_ BK936.out) hb); have n1_ := am_ (below_step (bel_ HB.out) hb); have n2_ := am_ (hbox); have n3_ := am_ ((by rw [hg]; exact (below_size (bel_ HB.out)) : w.heap.size ≤ gb937)); have n4_ := am_ ((by rw [hg]; exact (below_size (bel_ HB.out)) : w.heap.size ≤ gb937)); have n5_ := am_ ((by rw [hg]; exact Nat.ne_of_lt (blk_lt (g := gb936) (o := .cells #[.int .i64 a0_0, .string a0_1, .string a0_2, .slice A0_3 l0_3.length c0_3, .slice A0_4 l0_4.length c0_4] 26 (0, 0)) (blk_ BK936.out)) : gb936 ≠ gb937)); have n6_ := am_ ((by rw [hg]; exact Nat.ne_of_gt (blk_lt (g := gb936) (o := .cells #[.int .i64 a0_0, .string a0_1, .string a0_2, .slice A0_3 l0_3.length c0_3, .slice A0_4 l0_4.length c0_4] 26 (0, 0)) (blk_ BK936.out)) : gb937 ≠ gb936)); clear BK936 HB; have BK936 := n0_; have HB := n1_; have BK937 := n2_; have GW937 := n3_; have GE937 := n4_; have NB936_937 := n5_; have NB937_936 := n6_; clear n0_ n1_ n2_ n3_ n4_ n5_ n6_ hb hbox hg) | ((with_reducible refine gate_dst (N := 5) rfl ?_); refine box_event ?hg (N := 5) ?hd (cs := #[.int .i64 a2_0, .string a2_1, .string a2_2, .slice A2_3 l2_3.length c2_3, .slice A2_4 l2_4.length c2_4]) (t := 26) ?hr ?_; (case hd => rfl); (case hg => rfl); (case hr => first | (go_simp; done) | (go_simp; rfl)); intro gb938 hg w20 hbox hb; have n0_ := am_ (blk_below (g := gb936) (o := .cells #[.int .i64 a0_0, .string a0_1, .string a0_2, .slice A0_3 l0_3.length c0_3, .slice A0_4 l0_4.length c0_4] 26 (0, 0)) (blk_ BK936.out) hb); have n1_ := am_ (blk_below (g := gb937) (o := .cells #[.int .i64 a1_0, .string a1_1, .string a1_2, .slice A1_3 l1_3.length c1_3, .slice A1_4 l1_4.length c1_4] 26 (0, 0)) (blk_ BK937.out) hb); have n2_ := am_ (below_step (bel_ HB.out) hb); have n3_ := am_ (hbox); have n4_ := am_ ((by rw [hg]; exact (below_size (bel_ HB.out)) : w.heap.size ≤ gb938)); have n5_ := am_ ((by rw [hg]; exact (below_size (bel_ HB.out)) : w.heap.size ≤ gb938)); have n6_ := am_ ((by rw [hg]; exact Nat.ne_of_lt (blk_lt (g := gb936) (o := .cells #[.int .i64 a0_0, .string a0_1, .string a0_2, .slice A0_3 l0_3.length c0_3, .slice A0_4 l0_4.length c0_4] 26 (0, 0)) (blk_ BK936.out)) : gb936 ≠ gb938)); have n7_ := am_ ((by rw [hg]; exact Nat.ne_of_gt (blk_lt (g := gb936) (o := .cells #[.int .i64 a0_0, .string a0_1, .string a0_2, .slice A0_3 l0_3.length c0_3, .slice A0_4 l0_4.length c0_4] 26 (0, 0)) (blk_ BK936.out)) : gb938 ≠ gb936)); have n8_ := am_ ((by rw [hg]; exact Nat.ne_of_lt (blk_lt (g := gb937) (o := .cells #[.int .i64 a1_0, .string a1_1, .string a1_2, .slice A1_3 l1_3.length c1_3, .slice A1_4 l1_4.length c1_4] 26 (0, 0)) (blk_ BK937.out)) : gb937 ≠ gb938)); have n9_ := am_ ((by rw [hg]; exact Nat.ne_of_gt (blk_lt (g := gb937) (o := .cells #[.int .i64 a1_0, .string a1_1, .string a1_2, .slice A1_3 l1_3.length c1_3, .slice A1_4 l1_4.length c1_4] 26 (0, 0)) (blk_ BK937.out)) : gb938 ≠ gb937)); clear BK936 BK937 HB; have BK936 := n0_; have BK937 := n1_; have HB := n2_; have BK938 := n3_; have GW938 := n4_; have GE938 := n5_; have NB936_938 := n6_; have NB938_936 := n7_; have NB937_938 := n8_; have NB938_937 := n9_; clear n0_ n1_ n2_ n3_ n4_ n5_ n6_ n7_ n8_ n9_ hb hbox hg))
      have n0_ := am_ (blk_drew BK936.out)
      have n1_ := am_ (blk_drew BK937.out)
      have n2_ := am_ (blk_drew BK938.out)
      have n3_ := am_ (below_drew1 HB.out)
      clear BK936 BK937 BK938 HB
      have BK936 := n0_
      have BK937 := n1_
      have BK938 := n2_
      have HB := n3_
      clear n0_ n1_ n2_ n3_
      refine start_ (n := 9) (S := fun w' => w'.cell? ⟨gb936, 0, none⟩ = some (.int .i64 a0_0) ∧ w'.cell? ⟨gb936, 1, none⟩ = some (.string a0_1) ∧ w'.cell? ⟨gb936, 2, none⟩ = some (.string a0_2) ∧ w'.cell? ⟨gb936, 3, none⟩ = some (.slice A0_3 l0_3.length c0_3) ∧ w'.cell? ⟨gb936, 4, none⟩ = some (.slice A0_4 l0_4.length c0_4) ∧ w'.cell? ⟨gb937, 0, none⟩ = some (.int .i64 a1_0) ∧ w'.cell? ⟨gb937, 1, none⟩ = some (.string a1_1) ∧ w'.cell? ⟨gb937, 2, none⟩ = some (.string a1_2) ∧ w'.cell? ⟨gb937, 3, none⟩ = some (.slice A1_3 l1_3.length c1_3) ∧ w'.cell? ⟨gb937, 4, none⟩ = some (.slice A1_4 l1_4.length c1_4) ∧ w'.cell? ⟨gb938, 0, none⟩ = some (.int .i64 a2_0) ∧ w'.cell? ⟨gb938, 1, none⟩ = some (.string a2_1) ∧ w'.cell? ⟨gb938, 2, none⟩ = some (.string a2_2) ∧ w'.cell? ⟨gb938, 3, none⟩ = some (.slice A2_3 l2_3.length c2_3) ∧ w'.cell? ⟨gb938, 4, none⟩ = some (.slice A2_4 l2_4.length c2_4)) (ds := [6, 7, 8]) #[false, false, false, false, false, false, false, false, false] kr_ rfl rfl ⟨(blk_cell BK936.out 0).trans rfl, (blk_cell BK936.out 1).trans rfl, (blk_cell BK936.out 2).trans rfl, (blk_cell BK936.out 3).trans rfl, (blk_cell BK936.out 4).trans rfl, (blk_cell BK937.out 0).trans rfl, (blk_cell BK937.out 1).trans rfl, (blk_cell BK937.out 2).trans rfl, (blk_cell BK937.out 3).trans rfl, (blk_cell BK937.out 4).trans rfl, (blk_cell BK938.out 0).trans rfl, (blk_cell BK938.out 1).trans rfl, (blk_cell BK938.out 2).trans rfl, (blk_cell BK938.out 3).trans rfl, (blk_cell BK938.out 4).trans rfl⟩ (fun hHeld => ?_); refine with_tabW tolllaw06_RuleRanks_g5.tab1 tolllaw06_RuleRanks_g5.bits1 (fun HT_ HW_ => ?_)
      generalize w20.drew = w21 at BK936 BK937 BK938 HB hHeld ⊢
      refine take_ (i := 0) (N := some 10) (v := ?_) (a' := ?_) #[true, false, false, false, false, false, false, false, false] rfl rfl (take_ofW HT_.out HW_.out kr_) (fun _ _ _ h => h) (Or.inl ⟨by rfl, ?_⟩) hHeld ?_ ?_
      rotate_left
      ·rintro w' ⟨s0, s1, s2, s3, s4, s5, s6, s7, s8, s9, s10, s11, s12, s13, s14⟩
       go_simp
       with_reducible rfl
      rotate_left
      ·simp only [Act.put, sx_, s0_, s1_, i64_w, i32_w]
       rfl
      refine take_ (i := 2) (N := some 12) (v := ?_) (a' := ?_) #[true, false, true, false, false, false, false, false, false] rfl rfl (take_ofW HT_.out HW_.out kr_) (fun _ _ _ h => h) (Or.inl ⟨by rfl, ?_⟩) hHeld ?_ ?_
      rotate_left
      ·rintro w' ⟨s0, s1, s2, s3, s4, s5, s6, s7, s8, s9, s10, s11, s12, s13, s14⟩
       go_simp
       with_reducible rfl
      rotate_left
      ·simp only [Act.put, sx_, s0_, s1_, i64_w, i32_w]
       rfl
      refine take_ (i := 4) (N := some 14) (v := ?_) (a' := ?_) #[true, false, true, false, true, false, false, false, false] rfl rfl (take_ofW HT_.out HW_.out kr_) (fun _ _ _ h => h) (Or.inl ⟨by rfl, ?_⟩) hHeld ?_ ?_
      rotate_left
      ·rintro w' ⟨s0, s1, s2, s3, s4, s5, s6, s7, s8, s9, s10, s11, s12, s13, s14⟩
       go_simp
       with_reducible rfl
      rotate_left
      ·simp only [Act.put, sx_, s0_, s1_, i64_w, i32_w]
       rfl
      refine one_ (i := 1) (N := some 11) #[true, true, true, false, true, false, false, false, false] rfl rfl (one_of HT_.out kr_) (by decide) (fun K hK => ?_)
      refine goes_ Tryd.func9 kr_ rfl #[.agg #[.int .i64 a0_0, .string a0_1, .string a0_2, .slice A0_3 l0_3.length c0_3, .slice A0_4 l0_4.length c0_4]] (by rfl) rfl rfl rl_ ?_
      with_reducible refine (tolllaw06_Few.calls k a0_0 a0_1 a0_2 _ _ l0_3 _ _ l0_4 t939 t940 t941 t942 t945 _ ?side1 ?side2 ?side3 ?side4 A4.out).mono ?_
      (case side1 => exact C_ (Kd.C_below HR0_3.out HB.out))
      (case side2 => exact HC0_3.out)
      (case side3 => exact C_ (Kd.C_below HR0_4.out HB.out))
      (case side4 => exact HC0_4.out)
      rintro e w22 ⟨v943, v946, rfl, ho0, ho1, hb⟩
      refine ⟨_, rfl, ?_⟩
      have n0_ := am_ (Kd.R_lower ho0 (below_size (bel_ HB.out)))
      have n1_ := am_ (Kd.R_lower ho1 (below_size (bel_ HB.out)))
      have n2_ := am_ (blk_below (g := gb936) (o := .cells #[.int .i64 a0_0, .string a0_1, .string a0_2, .slice A0_3 l0_3.length c0_3, .slice A0_4 l0_4.length c0_4] 26 (0, 0)) (blk_ BK936.out) hb)
      have n3_ := am_ (blk_below (g := gb937) (o := .cells #[.int .i64 a1_0, .string a1_1, .string a1_2, .slice A1_3 l1_3.length c1_3, .slice A1_4 l1_4.length c1_4] 26 (0, 0)) (blk_ BK937.out) hb)
      have n4_ := am_ (blk_below (g := gb938) (o := .cells #[.int .i64 a2_0, .string a2_1, .string a2_2, .slice A2_3 l2_3.length c2_3, .slice A2_4 l2_4.length c2_4] 26 (0, 0)) (blk_ BK938.out) hb)
      have n5_ := am_ (below_step (bel_ HB.out) hb)
      clear BK936 BK937 BK938 HB
      have HO944 := n0_
      have HO947 := n1_
      have BK936 := n2_
      have BK937 := n3_
      have BK938 := n4_
      have HB := n5_
      clear n0_ n1_ n2_ n3_ n4_ n5_
      (try clear hb)
      (try clear hb2)
      (try clear hk)
      (try clear hi)
      (try clear ho0)
      (try clear ho1)
      refine hK.out _ _ ⟨(blk_cell BK936.out 0).trans rfl, (blk_cell BK936.out 1).trans rfl, (blk_cell BK936.out 2).trans rfl, (blk_cell BK936.out 3).trans rfl, (blk_cell BK936.out 4).trans rfl, (blk_cell BK937.out 0).trans rfl, (blk_cell BK937.out 1).trans rfl, (blk_cell BK937.out 2).trans rfl, (blk_cell BK937.out 3).trans rfl, (blk_cell BK937.out 4).trans rfl, (blk_cell BK938.out 0).trans rfl, (blk_cell BK938.out 1).trans rfl, (blk_cell BK938.out 2).trans rfl, (blk_cell BK938.out 3).trans rfl, (blk_cell BK938.out 4).trans rfl⟩ (fun hHeld => ?_)
      clear hK K
      refine norm_ (a' := ?_) ?_ ?_
      rotate_left
      ·show Act.put _ (some 11) _ = _
       simp only [Act.put, sx_, s0_, s1_, i64_w, i32_w]
       rfl
      refine one_ (i := 3) (N := some 13) #[true, true, true, true, true, false, false, false, false] rfl rfl (one_of HT_.out kr_) (by decide) (fun K hK => ?_)
      refine goes_ Tryd.func9 kr_ rfl #[.agg #[.int .i64 a1_0, .string a1_1, .string a1_2, .slice A1_3 l1_3.length c1_3, .slice A1_4 l1_4.length c1_4]] (by rfl) rfl rfl rl_ ?_
      with_reducible refine (tolllaw06_Few.calls k a1_0 a1_1 a1_2 _ _ l1_3 _ _ l1_4 t948 t949 t950 t951 t954 _ ?side1 ?side2 ?side3 ?side4 A5.out).mono ?_
      (case side1 => exact C_ (Kd.C_below HR1_3.out HB.out))
      (case side2 => exact HC1_3.out)
      (case side3 => exact C_ (Kd.C_below HR1_4.out HB.out))
      (case side4 => exact HC1_4.out)
      rintro e w23 ⟨v952, v955, rfl, ho0, ho1, hb⟩
      refine ⟨_, rfl, ?_⟩
      have n0_ := am_ (Kd.R_mono (Kd.R_told (Kd.R_told (Kd.R_old (R_ HO944.out) hb) (Kd.R_base ho0)) (Kd.R_base ho1)) (fun _ h_ => h_.1))
      have n1_ := am_ (Kd.R_mono (Kd.R_told (Kd.R_told (Kd.R_old (R_ HO947.out) hb) (Kd.R_base ho0)) (Kd.R_base ho1)) (fun _ h_ => h_.1))
      have n2_ := am_ (Kd.R_lower (Kd.R_new' (Kd.R_new' ho0 (Kd.R_lt (R_ HO944.out))) (Kd.R_lt (R_ HO947.out))) (below_size (bel_ HB.out)))
      have n3_ := am_ (Kd.R_lower (Kd.R_new' (Kd.R_new' ho1 (Kd.R_lt (R_ HO944.out))) (Kd.R_lt (R_ HO947.out))) (below_size (bel_ HB.out)))
      have n4_ := am_ (blk_below (g := gb936) (o := .cells #[.int .i64 a0_0, .string a0_1, .string a0_2, .slice A0_3 l0_3.length c0_3, .slice A0_4 l0_4.length c0_4] 26 (0, 0)) (blk_ BK936.out) hb)
      have n5_ := am_ (blk_below (g := gb937) (o := .cells #[.int .i64 a1_0, .string a1_1, .string a1_2, .slice A1_3 l1_3.length c1_3, .slice A1_4 l1_4.length c1_4] 26 (0, 0)) (blk_ BK937.out) hb)
      have n6_ := am_ (blk_below (g := gb938) (o := .cells #[.int .i64 a2_0, .string a2_1, .string a2_2, .slice A2_3 l2_3.length c2_3, .slice A2_4 l2_4.length c2_4] 26 (0, 0)) (blk_ BK938.out) hb)
      have n7_ := am_ (below_step (bel_ HB.out) hb)
      clear HO944 HO947 BK936 BK937 BK938 HB
      have HO944 := n0_
      have HO947 := n1_
      have HO953 := n2_
      have HO956 := n3_
      have BK936 := n4_
      have BK937 := n5_
      have BK938 := n6_
      have HB := n7_
      clear n0_ n1_ n2_ n3_ n4_ n5_ n6_ n7_
      (try clear hb)
      (try clear hb2)
      (try clear hk)
      (try clear hi)
      (try clear ho0)
      (try clear ho1)
      refine hK.out _ _ ⟨(blk_cell BK936.out 0).trans rfl, (blk_cell BK936.out 1).trans rfl, (blk_cell BK936.out 2).trans rfl, (blk_cell BK936.out 3).trans rfl, (blk_cell BK936.out 4).trans rfl, (blk_cell BK937.out 0).trans rfl, (blk_cell BK937.out 1).trans rfl, (blk_cell BK937.out 2).trans rfl, (blk_cell BK937.out 3).trans rfl, (blk_cell BK937.out 4).trans rfl, (blk_cell BK938.out 0).trans rfl, (blk_cell BK938.out 1).trans rfl, (blk_cell BK938.out 2).trans rfl, (blk_cell BK938.out 3).trans rfl, (blk_cell BK938.out 4).trans rfl⟩ (fun hHeld => ?_)
      clear hK K
      refine norm_ (a' := ?_) ?_ ?_
      rotate_left
      ·show Act.put _ (some 13) _ = _
       simp only [Act.put, sx_, s0_, s1_, i64_w, i32_w]
       rfl
      refine one_ (i := 5) (N := some 15) #[true, true, true, true, true, true, false, false, false] rfl rfl (one_of HT_.out kr_) (by decide) (fun K hK => ?_)
      refine goes_ Tryd.func9 kr_ rfl #[.agg #[.int .i64 a2_0, .string a2_1, .string a2_2, .slice A2_3 l2_3.length c2_3, .slice A2_4 l2_4.length c2_4]] (by rfl) rfl rfl rl_ ?_
      with_reducible refine (tolllaw06_Few.calls k a2_0 a2_1 a2_2 _ _ l2_3 _ _ l2_4 t957 t958 t959 t960 t963 _ ?side1 ?side2 ?side3 ?side4 A6.out).mono ?_
      (case side1 => exact C_ (Kd.C_below HR2_3.out HB.out))
      (case side2 => exact HC2_3.out)
      (case side3 => exact C_ (Kd.C_below HR2_4.out HB.out))
      (case side4 => exact HC2_4.out)
      rintro e w24 ⟨v961, v964, rfl, ho0, ho1, hb⟩
      refine ⟨_, rfl, ?_⟩
      have n0_ := am_ (Kd.R_mono (Kd.R_told (Kd.R_told (Kd.R_old (R_ HO944.out) hb) (Kd.R_base ho0)) (Kd.R_base ho1)) (fun _ h_ => h_.1))
      have n1_ := am_ (Kd.R_mono (Kd.R_told (Kd.R_told (Kd.R_old (R_ HO947.out) hb) (Kd.R_base ho0)) (Kd.R_base ho1)) (fun _ h_ => h_.1))
      have n2_ := am_ (Kd.R_mono (Kd.R_told (Kd.R_told (Kd.R_old (R_ HO953.out) hb) (Kd.R_base ho0)) (Kd.R_base ho1)) (fun _ h_ => h_.1))
      have n3_ := am_ (Kd.R_mono (Kd.R_told (Kd.R_told (Kd.R_old (R_ HO956.out) hb) (Kd.R_base ho0)) (Kd.R_base ho1)) (fun _ h_ => h_.1))
      have n4_ := am_ (Kd.R_lower (Kd.R_new' (Kd.R_new' (Kd.R_new' (Kd.R_new' ho0 (Kd.R_lt (R_ HO944.out))) (Kd.R_lt (R_ HO947.out))) (Kd.R_lt (R_ HO953.out))) (Kd.R_lt (R_ HO956.out))) (below_size (bel_ HB.out)))
      have n5_ := am_ (Kd.R_lower (Kd.R_new' (Kd.R_new' (Kd.R_new' (Kd.R_new' ho1 (Kd.R_lt (R_ HO944.out))) (Kd.R_lt (R_ HO947.out))) (Kd.R_lt (R_ HO953.out))) (Kd.R_lt (R_ HO956.out))) (below_size (bel_ HB.out)))
      have n6_ := am_ (blk_below (g := gb936) (o := .cells #[.int .i64 a0_0, .string a0_1, .string a0_2, .slice A0_3 l0_3.length c0_3, .slice A0_4 l0_4.length c0_4] 26 (0, 0)) (blk_ BK936.out) hb)
      have n7_ := am_ (blk_below (g := gb937) (o := .cells #[.int .i64 a1_0, .string a1_1, .string a1_2, .slice A1_3 l1_3.length c1_3, .slice A1_4 l1_4.length c1_4] 26 (0, 0)) (blk_ BK937.out) hb)
      have n8_ := am_ (blk_below (g := gb938) (o := .cells #[.int .i64 a2_0, .string a2_1, .string a2_2, .slice A2_3 l2_3.length c2_3, .slice A2_4 l2_4.length c2_4] 26 (0, 0)) (blk_ BK938.out) hb)
      have n9_ := am_ (below_step (bel_ HB.out) hb)
      clear HO944 HO947 HO953 HO956 BK936 BK937 BK938 HB
      have HO944 := n0_
      have HO947 := n1_
      have HO953 := n2_
      have HO956 := n3_
      have HO962 := n4_
      have HO965 := n5_
      have BK936 := n6_
      have BK937 := n7_
      have BK938 := n8_
      have HB := n9_
      clear n0_ n1_ n2_ n3_ n4_ n5_ n6_ n7_ n8_ n9_
      (try clear hb)
      (try clear hb2)
      (try clear hk)
      (try clear hi)
      (try clear ho0)
      (try clear ho1)
      obtain ⟨Ao28, co28, eo28⟩ := Kd.R_slice HO944.out
      (first | subst eo28 | (injection eo28 with f1_ f2_ f3_; have f4_ := f1_.symm; have f5_ := f3_.symm; clear f1_ f2_ f3_; subst f4_; subst f5_))
      obtain ⟨Ao30, co30, eo30⟩ := Kd.R_slice HO947.out
      (first | subst eo30 | (injection eo30 with f1_ f2_ f3_; have f4_ := f1_.symm; have f5_ := f3_.symm; clear f1_ f2_ f3_; subst f4_; subst f5_))
      obtain ⟨Ao35, co35, eo35⟩ := Kd.R_slice HO953.out
      (first | subst eo35 | (injection eo35 with f1_ f2_ f3_; have f4_ := f1_.symm; have f5_ := f3_.symm; clear f1_ f2_ f3_; subst f4_; subst f5_))
      obtain ⟨Ao37, co37, eo37⟩ := Kd.R_slice HO956.out
      (first | subst eo37 | (injection eo37 with f1_ f2_ f3_; have f4_ := f1_.symm; have f5_ := f3_.symm; clear f1_ f2_ f3_; subst f4_; subst f5_))
      obtain ⟨Ao42, co42, eo42⟩ := Kd.R_slice HO962.out
      (first | subst eo42 | (injection eo42 with f1_ f2_ f3_; have f4_ := f1_.symm; have f5_ := f3_.symm; clear f1_ f2_ f3_; subst f4_; subst f5_))
      obtain ⟨Ao44, co44, eo44⟩ := Kd.R_slice HO965.out
      (first | subst eo44 | (injection eo44 with f1_ f2_ f3_; have f4_ := f1_.symm; have f5_ := f3_.symm; clear f1_ f2_ f3_; subst f4_; subst f5_))
      refine hK.out _ _ ⟨(blk_cell BK936.out 0).trans rfl, (blk_cell BK936.out 1).trans rfl, (blk_cell BK936.out 2).trans rfl, (blk_cell BK936.out 3).trans rfl, (blk_cell BK936.out 4).trans rfl, (blk_cell BK937.out 0).trans rfl, (blk_cell BK937.out 1).trans rfl, (blk_cell BK937.out 2).trans rfl, (blk_cell BK937.out 3).trans rfl, (blk_cell BK937.out 4).trans rfl, (blk_cell BK938.out 0).trans rfl, (blk_cell BK938.out 1).trans rfl, (blk_cell BK938.out 2).trans rfl, (blk_cell BK938.out 3).trans rfl, (blk_cell BK938.out 4).trans rfl⟩ (fun hHeld => ?_)
      clear hK K
      refine norm_ (a' := ?_) ?_ ?_
      rotate_left
      ·show Act.put _ (some 15) _ = _
       simp only [Act.put, sx_, s0_, s1_, i64_w, i32_w]
       rfl
      refine last_ (i := 6) (N := none) #[true, true, true, true, true, true, true, false, false] rfl rfl (one_of HT_.out kr_) (by decide) (fun K hK => ?_)
      have hs25 : w24.cell? ⟨gb936, 0, none⟩ = some (.int .i64 a0_0) := (blk_cell BK936.out 0).trans rfl
      have hfs25 := blk_frozen BK936.out 0
      have hns25_1 := NB937_936.out
      have hns25_2 := NB938_936.out
      have hms25_1 := NB936_937.out
      have hms25_2 := NB936_938.out
      have hs26 : w24.cell? ⟨gb936, 1, none⟩ = some (.string a0_1) := (blk_cell BK936.out 1).trans rfl
      have hfs26 := blk_frozen BK936.out 1
      have hns26_1 := NB937_936.out
      have hns26_2 := NB938_936.out
      have hms26_1 := NB936_937.out
      have hms26_2 := NB936_938.out
      have hs27 : w24.cell? ⟨gb936, 2, none⟩ = some (.string a0_2) := (blk_cell BK936.out 2).trans rfl
      have hfs27 := blk_frozen BK936.out 2
      have hns27_1 := NB937_936.out
      have hns27_2 := NB938_936.out
      have hms27_1 := NB936_937.out
      have hms27_2 := NB936_938.out
      have hs29 : w24.cell? ⟨gb936, 3, none⟩ = some (.slice A0_3 l0_3.length c0_3) := (blk_cell BK936.out 3).trans rfl
      have hfs29 := blk_frozen BK936.out 3
      have hns29_1 := NB937_936.out
      have hns29_2 := NB938_936.out
      have hms29_1 := NB936_937.out
      have hms29_2 := NB936_938.out
      have hs31 : w24.cell? ⟨gb936, 4, none⟩ = some (.slice A0_4 l0_4.length c0_4) := (blk_cell BK936.out 4).trans rfl
      have hfs31 := blk_frozen BK936.out 4
      have hns31_1 := NB937_936.out
      have hns31_2 := NB938_936.out
      have hms31_1 := NB936_937.out
      have hms31_2 := NB936_938.out
      refine skip_ (w1 := ?_) ?_ ?_ ?_ ?_
      rotate_left
      ·rfl
      ·rfl
      ·go_simp
       rfl
      refine hK.out _ _ ?_
      clear hK K
      refine last_ (i := 7) (N := none) #[true, true, true, true, true, true, true, true, false] rfl rfl (one_of HT_.out kr_) (by decide) (fun K hK => ?_)
      have hs32 : w24.cell? ⟨gb937, 0, none⟩ = some (.int .i64 a1_0) := (blk_cell BK937.out 0).trans rfl
      have hfs32 := blk_frozen BK937.out 0
      have hns32_0 := NB936_937.out
      have hns32_2 := NB938_937.out
      have hms32_0 := NB937_936.out
      have hms32_2 := NB937_938.out
      have hs33 : w24.cell? ⟨gb937, 1, none⟩ = some (.string a1_1) := (blk_cell BK937.out 1).trans rfl
      have hfs33 := blk_frozen BK937.out 1
      have hns33_0 := NB936_937.out
      have hns33_2 := NB938_937.out
      have hms33_0 := NB937_936.out
      have hms33_2 := NB937_938.out
      have hs34 : w24.cell? ⟨gb937, 2, none⟩ = some (.string a1_2) := (blk_cell BK937.out 2).trans rfl
      have hfs34 := blk_frozen BK937.out 2
      have hns34_0 := NB936_937.out
      have hns34_2 := NB938_937.out
      have hms34_0 := NB937_936.out
      have hms34_2 := NB937_938.out
      have hs36 : w24.cell? ⟨gb937, 3, none⟩ = some (.slice A1_3 l1_3.length c1_3) := (blk_cell BK937.out 3).trans rfl
      have hfs36 := blk_frozen BK937.out 3
      have hns36_0 := NB936_937.out
      have hns36_2 := NB938_937.out
      have hms36_0 := NB937_936.out
      have hms36_2 := NB937_938.out
      have hs38 : w24.cell? ⟨gb937, 4, none⟩ = some (.slice A1_4 l1_4.length c1_4) := (blk_cell BK937.out 4).trans rfl
      have hfs38 := blk_frozen BK937.out 4
      have hns38_0 := NB936_937.out
      have hns38_2 := NB938_937.out
      have hms38_0 := NB937_936.out
      have hms38_2 := NB937_938.out
      refine skip_ (w1 := ?_) ?_ ?_ ?_ ?_
      rotate_left
      ·rfl
      ·rfl
      ·go_simp
       rfl
      refine hK.out _ _ ?_
      clear hK K
      refine last_ (i := 8) (N := none) #[true, true, true, true, true, true, true, true, true] rfl rfl (one_of HT_.out kr_) (by decide) (fun K hK => ?_)
      have hs39 : w24.cell? ⟨gb938, 0, none⟩ = some (.int .i64 a2_0) := (blk_cell BK938.out 0).trans rfl
      have hfs39 := blk_frozen BK938.out 0
      have hns39_0 := NB936_938.out
      have hns39_1 := NB937_938.out
      have hms39_0 := NB938_936.out
      have hms39_1 := NB938_937.out
      have hs40 : w24.cell? ⟨gb938, 1, none⟩ = some (.string a2_1) := (blk_cell BK938.out 1).trans rfl
      have hfs40 := blk_frozen BK938.out 1
      have hns40_0 := NB936_938.out
      have hns40_1 := NB937_938.out
      have hms40_0 := NB938_936.out
      have hms40_1 := NB938_937.out
      have hs41 : w24.cell? ⟨gb938, 2, none⟩ = some (.string a2_2) := (blk_cell BK938.out 2).trans rfl
      have hfs41 := blk_frozen BK938.out 2
      have hns41_0 := NB936_938.out
      have hns41_1 := NB937_938.out
      have hms41_0 := NB938_936.out
      have hms41_1 := NB938_937.out
      have hs43 : w24.cell? ⟨gb938, 3, none⟩ = some (.slice A2_3 l2_3.length c2_3) := (blk_cell BK938.out 3).trans rfl
      have hfs43 := blk_frozen BK938.out 3
      have hns43_0 := NB936_938.out
      have hns43_1 := NB937_938.out
      have hms43_0 := NB938_936.out
      have hms43_1 := NB938_937.out
      have hs45 : w24.cell? ⟨gb938, 4, none⟩ = some (.slice A2_4 l2_4.length c2_4) := (blk_cell BK938.out 4).trans rfl
      have hfs45 := blk_frozen BK938.out 4
      have hns45_0 := NB936_938.out
      have hns45_1 := NB937_938.out
      have hms45_0 := NB938_936.out
      have hms45_1 := NB938_937.out
      refine skip_ (w1 := ?_) ?_ ?_ ?_ ?_
      rotate_left
      ·rfl
      ·rfl
      ·go_simp
       rfl
      refine hK.out _ _ ?_
      clear hK K
      refine done_ (done_of HT_.out kr_) ?_
      try go_wp2
      have n0_ : Aside0 (Kd.R k49 49 (((((((((((((((w24.setCell ⟨gb936, 0, none⟩ (.int .i64 t939)).setCell ⟨gb936, 1, none⟩ (.string t940)).setCell ⟨gb936, 2, none⟩ (.string t941)).setCell ⟨gb936, 3, none⟩ (.slice Ao28 t942.length co28)).setCell ⟨gb936, 4, none⟩ (.slice Ao30 t945.length co30)).setCell ⟨gb937, 0, none⟩ (.int .i64 t948)).setCell ⟨gb937, 1, none⟩ (.string t949)).setCell ⟨gb937, 2, none⟩ (.string t950)).setCell ⟨gb937, 3, none⟩ (.slice Ao35 t951.length co35)).setCell ⟨gb937, 4, none⟩ (.slice Ao37 t954.length co37)).setCell ⟨gb938, 0, none⟩ (.int .i64 t957)).setCell ⟨gb938, 1, none⟩ (.string t958)).setCell ⟨gb938, 2, none⟩ (.string t959)).setCell ⟨gb938, 3, none⟩ (.slice Ao42 t960.length co42)).setCell ⟨gb938, 4, none⟩ (.slice Ao44 t963.length co44)) w.heap.size (fun k_ => some k_ ≠ (.slice Ao30 t945.length co30 : Value).ownBlock ∧ some k_ ≠ (.slice Ao35 t951.length co35 : Value).ownBlock ∧ some k_ ≠ (.slice Ao37 t954.length co37 : Value).ownBlock ∧ some k_ ≠ (.slice Ao42 t960.length co42 : Value).ownBlock ∧ some k_ ≠ (.slice Ao44 t963.length co44 : Value).ownBlock) (.slice Ao28 t942.length co28) t942) := ⟨by (with_reducible repeat (first | apply Kd.R_alloc | apply Kd.R_drewN | apply Kd.R_drew)); exact Kd.R_mono (Kd.R_far (p := ⟨gb938, 4, none⟩) (Kd.R_far (p := ⟨gb938, 3, none⟩) (Kd.R_far (p := ⟨gb938, 2, none⟩) (Kd.R_far (p := ⟨gb938, 1, none⟩) (Kd.R_far (p := ⟨gb938, 0, none⟩) (Kd.R_far (p := ⟨gb937, 4, none⟩) (Kd.R_far (p := ⟨gb937, 3, none⟩) (Kd.R_far (p := ⟨gb937, 2, none⟩) (Kd.R_far (p := ⟨gb937, 1, none⟩) (Kd.R_far (p := ⟨gb937, 0, none⟩) (Kd.R_far (p := ⟨gb936, 4, none⟩) (Kd.R_far (p := ⟨gb936, 3, none⟩) (Kd.R_far (p := ⟨gb936, 2, none⟩) (Kd.R_far (p := ⟨gb936, 1, none⟩) (Kd.R_far (p := ⟨gb936, 0, none⟩) (Kd.R_types (Kd.R_types (Kd.R_types HO944.out BK936.out (by decide)) BK937.out (by decide)) BK938.out (by decide)) (fun _ hk => hk.1.1.2) (.int .i64 t939)) (fun _ hk => hk.1.1.2) (.string t940)) (fun _ hk => hk.1.1.2) (.string t941)) (fun _ hk => hk.1.1.2) (.slice Ao28 t942.length co28)) (fun _ hk => hk.1.1.2) (.slice Ao30 t945.length co30)) (fun _ hk => hk.1.2) (.int .i64 t948)) (fun _ hk => hk.1.2) (.string t949)) (fun _ hk => hk.1.2) (.string t950)) (fun _ hk => hk.1.2) (.slice Ao35 t951.length co35)) (fun _ hk => hk.1.2) (.slice Ao37 t954.length co37)) (fun _ hk => hk.2) (.int .i64 t957)) (fun _ hk => hk.2) (.string t958)) (fun _ hk => hk.2) (.string t959)) (fun _ hk => hk.2) (.slice Ao42 t960.length co42)) (fun _ hk => hk.2) (.slice Ao44 t963.length co44)) (fun _ hk => ⟨hk.1.1.1.1.1.1.1, ⟨hk.1.1.1.1.1.1.2, ⟨hk.1.1.1.1.1.2, ⟨hk.1.1.1.1.2, hk.1.1.1.2⟩⟩⟩⟩)⟩
      have n1_ : Aside0 (Kd.R k49 49 (((((((((((((((w24.setCell ⟨gb936, 0, none⟩ (.int .i64 t939)).setCell ⟨gb936, 1, none⟩ (.string t940)).setCell ⟨gb936, 2, none⟩ (.string t941)).setCell ⟨gb936, 3, none⟩ (.slice Ao28 t942.length co28)).setCell ⟨gb936, 4, none⟩ (.slice Ao30 t945.length co30)).setCell ⟨gb937, 0, none⟩ (.int .i64 t948)).setCell ⟨gb937, 1, none⟩ (.string t949)).setCell ⟨gb937, 2, none⟩ (.string t950)).setCell ⟨gb937, 3, none⟩ (.slice Ao35 t951.length co35)).setCell ⟨gb937, 4, none⟩ (.slice Ao37 t954.length co37)).setCell ⟨gb938, 0, none⟩ (.int .i64 t957)).setCell ⟨gb938, 1, none⟩ (.string t958)).setCell ⟨gb938, 2, none⟩ (.string t959)).setCell ⟨gb938, 3, none⟩ (.slice Ao42 t960.length co42)).setCell ⟨gb938, 4, none⟩ (.slice Ao44 t963.length co44)) w.heap.size (fun k_ => some k_ ≠ (.slice Ao28 t942.length co28 : Value).ownBlock ∧ some k_ ≠ (.slice Ao35 t951.length co35 : Value).ownBlock ∧ some k_ ≠ (.slice Ao37 t954.length co37 : Value).ownBlock ∧ some k_ ≠ (.slice Ao42 t960.length co42 : Value).ownBlock ∧ some k_ ≠ (.slice Ao44 t963.length co44 : Value).ownBlock) (.slice Ao30 t945.length co30) t945) := ⟨by (with_reducible repeat (first | apply Kd.R_alloc | apply Kd.R_drewN | apply Kd.R_drew)); exact Kd.R_mono (Kd.R_far (p := ⟨gb938, 4, none⟩) (Kd.R_far (p := ⟨gb938, 3, none⟩) (Kd.R_far (p := ⟨gb938, 2, none⟩) (Kd.R_far (p := ⟨gb938, 1, none⟩) (Kd.R_far (p := ⟨gb938, 0, none⟩) (Kd.R_far (p := ⟨gb937, 4, none⟩) (Kd.R_far (p := ⟨gb937, 3, none⟩) (Kd.R_far (p := ⟨gb937, 2, none⟩) (Kd.R_far (p := ⟨gb937, 1, none⟩) (Kd.R_far (p := ⟨gb937, 0, none⟩) (Kd.R_far (p := ⟨gb936, 4, none⟩) (Kd.R_far (p := ⟨gb936, 3, none⟩) (Kd.R_far (p := ⟨gb936, 2, none⟩) (Kd.R_far (p := ⟨gb936, 1, none⟩) (Kd.R_far (p := ⟨gb936, 0, none⟩) (Kd.R_types (Kd.R_types (Kd.R_types HO947.out BK936.out (by decide)) BK937.out (by decide)) BK938.out (by decide)) (fun _ hk => hk.1.1.2) (.int .i64 t939)) (fun _ hk => hk.1.1.2) (.string t940)) (fun _ hk => hk.1.1.2) (.string t941)) (fun _ hk => hk.1.1.2) (.slice Ao28 t942.length co28)) (fun _ hk => hk.1.1.2) (.slice Ao30 t945.length co30)) (fun _ hk => hk.1.2) (.int .i64 t948)) (fun _ hk => hk.1.2) (.string t949)) (fun _ hk => hk.1.2) (.string t950)) (fun _ hk => hk.1.2) (.slice Ao35 t951.length co35)) (fun _ hk => hk.1.2) (.slice Ao37 t954.length co37)) (fun _ hk => hk.2) (.int .i64 t957)) (fun _ hk => hk.2) (.string t958)) (fun _ hk => hk.2) (.string t959)) (fun _ hk => hk.2) (.slice Ao42 t960.length co42)) (fun _ hk => hk.2) (.slice Ao44 t963.length co44)) (fun _ hk => ⟨hk.1.1.1.1.1.1.1, ⟨hk.1.1.1.1.1.1.2, ⟨hk.1.1.1.1.1.2, ⟨hk.1.1.1.1.2, hk.1.1.1.2⟩⟩⟩⟩)⟩
      have n2_ : Aside0 (Kd.R k49 49 (((((((((((((((w24.setCell ⟨gb936, 0, none⟩ (.int .i64 t939)).setCell ⟨gb936, 1, none⟩ (.string t940)).setCell ⟨gb936, 2, none⟩ (.string t941)).setCell ⟨gb936, 3, none⟩ (.slice Ao28 t942.length co28)).setCell ⟨gb936, 4, none⟩ (.slice Ao30 t945.length co30)).setCell ⟨gb937, 0, none⟩ (.int .i64 t948)).setCell ⟨gb937, 1, none⟩ (.string t949)).setCell ⟨gb937, 2, none⟩ (.string t950)).setCell ⟨gb937, 3, none⟩ (.slice Ao35 t951.length co35)).setCell ⟨gb937, 4, none⟩ (.slice Ao37 t954.length co37)).setCell ⟨gb938, 0, none⟩ (.int .i64 t957)).setCell ⟨gb938, 1, none⟩ (.string t958)).setCell ⟨gb938, 2, none⟩ (.string t959)).setCell ⟨gb938, 3, none⟩ (.slice Ao42 t960.length co42)).setCell ⟨gb938, 4, none⟩ (.slice Ao44 t963.length co44)) w.heap.size (fun k_ => some k_ ≠ (.slice Ao28 t942.length co28 : Value).ownBlock ∧ some k_ ≠ (.slice Ao30 t945.length co30 : Value).ownBlock ∧ some k_ ≠ (.slice Ao37 t954.length co37 : Value).ownBlock ∧ some k_ ≠ (.slice Ao42 t960.length co42 : Value).ownBlock ∧ some k_ ≠ (.slice Ao44 t963.length co44 : Value).ownBlock) (.slice Ao35 t951.length co35) t951) := ⟨by (with_reducible repeat (first | apply Kd.R_alloc | apply Kd.R_drewN | apply Kd.R_drew)); exact Kd.R_mono (Kd.R_far (p := ⟨gb938, 4, none⟩) (Kd.R_far (p := ⟨gb938, 3, none⟩) (Kd.R_far (p := ⟨gb938, 2, none⟩) (Kd.R_far (p := ⟨gb938, 1, none⟩) (Kd.R_far (p := ⟨gb938, 0, none⟩) (Kd.R_far (p := ⟨gb937, 4, none⟩) (Kd.R_far (p := ⟨gb937, 3, none⟩) (Kd.R_far (p := ⟨gb937, 2, none⟩) (Kd.R_far (p := ⟨gb937, 1, none⟩) (Kd.R_far (p := ⟨gb937, 0, none⟩) (Kd.R_far (p := ⟨gb936, 4, none⟩) (Kd.R_far (p := ⟨gb936, 3, none⟩) (Kd.R_far (p := ⟨gb936, 2, none⟩) (Kd.R_far (p := ⟨gb936, 1, none⟩) (Kd.R_far (p := ⟨gb936, 0, none⟩) (Kd.R_types (Kd.R_types (Kd.R_types HO953.out BK936.out (by decide)) BK937.out (by decide)) BK938.out (by decide)) (fun _ hk => hk.1.1.2) (.int .i64 t939)) (fun _ hk => hk.1.1.2) (.string t940)) (fun _ hk => hk.1.1.2) (.string t941)) (fun _ hk => hk.1.1.2) (.slice Ao28 t942.length co28)) (fun _ hk => hk.1.1.2) (.slice Ao30 t945.length co30)) (fun _ hk => hk.1.2) (.int .i64 t948)) (fun _ hk => hk.1.2) (.string t949)) (fun _ hk => hk.1.2) (.string t950)) (fun _ hk => hk.1.2) (.slice Ao35 t951.length co35)) (fun _ hk => hk.1.2) (.slice Ao37 t954.length co37)) (fun _ hk => hk.2) (.int .i64 t957)) (fun _ hk => hk.2) (.string t958)) (fun _ hk => hk.2) (.string t959)) (fun _ hk => hk.2) (.slice Ao42 t960.length co42)) (fun _ hk => hk.2) (.slice Ao44 t963.length co44)) (fun _ hk => ⟨hk.1.1.1.1.1.1.2, ⟨hk.1.1.1.1.1.2, ⟨hk.1.1.1.1.1.1.1, ⟨hk.1.1.1.1.2, hk.1.1.1.2⟩⟩⟩⟩)⟩
      have n3_ : Aside0 (Kd.R k49 49 (((((((((((((((w24.setCell ⟨gb936, 0, none⟩ (.int .i64 t939)).setCell ⟨gb936, 1, none⟩ (.string t940)).setCell ⟨gb936, 2, none⟩ (.string t941)).setCell ⟨gb936, 3, none⟩ (.slice Ao28 t942.length co28)).setCell ⟨gb936, 4, none⟩ (.slice Ao30 t945.length co30)).setCell ⟨gb937, 0, none⟩ (.int .i64 t948)).setCell ⟨gb937, 1, none⟩ (.string t949)).setCell ⟨gb937, 2, none⟩ (.string t950)).setCell ⟨gb937, 3, none⟩ (.slice Ao35 t951.length co35)).setCell ⟨gb937, 4, none⟩ (.slice Ao37 t954.length co37)).setCell ⟨gb938, 0, none⟩ (.int .i64 t957)).setCell ⟨gb938, 1, none⟩ (.string t958)).setCell ⟨gb938, 2, none⟩ (.string t959)).setCell ⟨gb938, 3, none⟩ (.slice Ao42 t960.length co42)).setCell ⟨gb938, 4, none⟩ (.slice Ao44 t963.length co44)) w.heap.size (fun k_ => some k_ ≠ (.slice Ao28 t942.length co28 : Value).ownBlock ∧ some k_ ≠ (.slice Ao30 t945.length co30 : Value).ownBlock ∧ some k_ ≠ (.slice Ao35 t951.length co35 : Value).ownBlock ∧ some k_ ≠ (.slice Ao42 t960.length co42 : Value).ownBlock ∧ some k_ ≠ (.slice Ao44 t963.length co44 : Value).ownBlock) (.slice Ao37 t954.length co37) t954) := ⟨by (with_reducible repeat (first | apply Kd.R_alloc | apply Kd.R_drewN | apply Kd.R_drew)); exact Kd.R_mono (Kd.R_far (p := ⟨gb938, 4, none⟩) (Kd.R_far (p := ⟨gb938, 3, none⟩) (Kd.R_far (p := ⟨gb938, 2, none⟩) (Kd.R_far (p := ⟨gb938, 1, none⟩) (Kd.R_far (p := ⟨gb938, 0, none⟩) (Kd.R_far (p := ⟨gb937, 4, none⟩) (Kd.R_far (p := ⟨gb937, 3, none⟩) (Kd.R_far (p := ⟨gb937, 2, none⟩) (Kd.R_far (p := ⟨gb937, 1, none⟩) (Kd.R_far (p := ⟨gb937, 0, none⟩) (Kd.R_far (p := ⟨gb936, 4, none⟩) (Kd.R_far (p := ⟨gb936, 3, none⟩) (Kd.R_far (p := ⟨gb936, 2, none⟩) (Kd.R_far (p := ⟨gb936, 1, none⟩) (Kd.R_far (p := ⟨gb936, 0, none⟩) (Kd.R_types (Kd.R_types (Kd.R_types HO956.out BK936.out (by decide)) BK937.out (by decide)) BK938.out (by decide)) (fun _ hk => hk.1.1.2) (.int .i64 t939)) (fun _ hk => hk.1.1.2) (.string t940)) (fun _ hk => hk.1.1.2) (.string t941)) (fun _ hk => hk.1.1.2) (.slice Ao28 t942.length co28)) (fun _ hk => hk.1.1.2) (.slice Ao30 t945.length co30)) (fun _ hk => hk.1.2) (.int .i64 t948)) (fun _ hk => hk.1.2) (.string t949)) (fun _ hk => hk.1.2) (.string t950)) (fun _ hk => hk.1.2) (.slice Ao35 t951.length co35)) (fun _ hk => hk.1.2) (.slice Ao37 t954.length co37)) (fun _ hk => hk.2) (.int .i64 t957)) (fun _ hk => hk.2) (.string t958)) (fun _ hk => hk.2) (.string t959)) (fun _ hk => hk.2) (.slice Ao42 t960.length co42)) (fun _ hk => hk.2) (.slice Ao44 t963.length co44)) (fun _ hk => ⟨hk.1.1.1.1.1.1.2, ⟨hk.1.1.1.1.1.2, ⟨hk.1.1.1.1.1.1.1, ⟨hk.1.1.1.1.2, hk.1.1.1.2⟩⟩⟩⟩)⟩
      have n4_ : Aside0 (Kd.R k49 49 (((((((((((((((w24.setCell ⟨gb936, 0, none⟩ (.int .i64 t939)).setCell ⟨gb936, 1, none⟩ (.string t940)).setCell ⟨gb936, 2, none⟩ (.string t941)).setCell ⟨gb936, 3, none⟩ (.slice Ao28 t942.length co28)).setCell ⟨gb936, 4, none⟩ (.slice Ao30 t945.length co30)).setCell ⟨gb937, 0, none⟩ (.int .i64 t948)).setCell ⟨gb937, 1, none⟩ (.string t949)).setCell ⟨gb937, 2, none⟩ (.string t950)).setCell ⟨gb937, 3, none⟩ (.slice Ao35 t951.length co35)).setCell ⟨gb937, 4, none⟩ (.slice Ao37 t954.length co37)).setCell ⟨gb938, 0, none⟩ (.int .i64 t957)).setCell ⟨gb938, 1, none⟩ (.string t958)).setCell ⟨gb938, 2, none⟩ (.string t959)).setCell ⟨gb938, 3, none⟩ (.slice Ao42 t960.length co42)).setCell ⟨gb938, 4, none⟩ (.slice Ao44 t963.length co44)) w.heap.size (fun k_ => some k_ ≠ (.slice Ao28 t942.length co28 : Value).ownBlock ∧ some k_ ≠ (.slice Ao30 t945.length co30 : Value).ownBlock ∧ some k_ ≠ (.slice Ao35 t951.length co35 : Value).ownBlock ∧ some k_ ≠ (.slice Ao37 t954.length co37 : Value).ownBlock ∧ some k_ ≠ (.slice Ao44 t963.length co44 : Value).ownBlock) (.slice Ao42 t960.length co42) t960) := ⟨by (with_reducible repeat (first | apply Kd.R_alloc | apply Kd.R_drewN | apply Kd.R_drew)); exact Kd.R_mono (Kd.R_far (p := ⟨gb938, 4, none⟩) (Kd.R_far (p := ⟨gb938, 3, none⟩) (Kd.R_far (p := ⟨gb938, 2, none⟩) (Kd.R_far (p := ⟨gb938, 1, none⟩) (Kd.R_far (p := ⟨gb938, 0, none⟩) (Kd.R_far (p := ⟨gb937, 4, none⟩) (Kd.R_far (p := ⟨gb937, 3, none⟩) (Kd.R_far (p := ⟨gb937, 2, none⟩) (Kd.R_far (p := ⟨gb937, 1, none⟩) (Kd.R_far (p := ⟨gb937, 0, none⟩) (Kd.R_far (p := ⟨gb936, 4, none⟩) (Kd.R_far (p := ⟨gb936, 3, none⟩) (Kd.R_far (p := ⟨gb936, 2, none⟩) (Kd.R_far (p := ⟨gb936, 1, none⟩) (Kd.R_far (p := ⟨gb936, 0, none⟩) (Kd.R_types (Kd.R_types (Kd.R_types HO962.out BK936.out (by decide)) BK937.out (by decide)) BK938.out (by decide)) (fun _ hk => hk.1.1.2) (.int .i64 t939)) (fun _ hk => hk.1.1.2) (.string t940)) (fun _ hk => hk.1.1.2) (.string t941)) (fun _ hk => hk.1.1.2) (.slice Ao28 t942.length co28)) (fun _ hk => hk.1.1.2) (.slice Ao30 t945.length co30)) (fun _ hk => hk.1.2) (.int .i64 t948)) (fun _ hk => hk.1.2) (.string t949)) (fun _ hk => hk.1.2) (.string t950)) (fun _ hk => hk.1.2) (.slice Ao35 t951.length co35)) (fun _ hk => hk.1.2) (.slice Ao37 t954.length co37)) (fun _ hk => hk.2) (.int .i64 t957)) (fun _ hk => hk.2) (.string t958)) (fun _ hk => hk.2) (.string t959)) (fun _ hk => hk.2) (.slice Ao42 t960.length co42)) (fun _ hk => hk.2) (.slice Ao44 t963.length co44)) (fun _ hk => ⟨hk.1.1.1.1.1.1.2, ⟨hk.1.1.1.1.1.2, ⟨hk.1.1.1.1.2, ⟨hk.1.1.1.2, hk.1.1.1.1.1.1.1⟩⟩⟩⟩)⟩
      have n5_ : Aside0 (Kd.R k49 49 (((((((((((((((w24.setCell ⟨gb936, 0, none⟩ (.int .i64 t939)).setCell ⟨gb936, 1, none⟩ (.string t940)).setCell ⟨gb936, 2, none⟩ (.string t941)).setCell ⟨gb936, 3, none⟩ (.slice Ao28 t942.length co28)).setCell ⟨gb936, 4, none⟩ (.slice Ao30 t945.length co30)).setCell ⟨gb937, 0, none⟩ (.int .i64 t948)).setCell ⟨gb937, 1, none⟩ (.string t949)).setCell ⟨gb937, 2, none⟩ (.string t950)).setCell ⟨gb937, 3, none⟩ (.slice Ao35 t951.length co35)).setCell ⟨gb937, 4, none⟩ (.slice Ao37 t954.length co37)).setCell ⟨gb938, 0, none⟩ (.int .i64 t957)).setCell ⟨gb938, 1, none⟩ (.string t958)).setCell ⟨gb938, 2, none⟩ (.string t959)).setCell ⟨gb938, 3, none⟩ (.slice Ao42 t960.length co42)).setCell ⟨gb938, 4, none⟩ (.slice Ao44 t963.length co44)) w.heap.size (fun k_ => some k_ ≠ (.slice Ao28 t942.length co28 : Value).ownBlock ∧ some k_ ≠ (.slice Ao30 t945.length co30 : Value).ownBlock ∧ some k_ ≠ (.slice Ao35 t951.length co35 : Value).ownBlock ∧ some k_ ≠ (.slice Ao37 t954.length co37 : Value).ownBlock ∧ some k_ ≠ (.slice Ao42 t960.length co42 : Value).ownBlock) (.slice Ao44 t963.length co44) t963) := ⟨by (with_reducible repeat (first | apply Kd.R_alloc | apply Kd.R_drewN | apply Kd.R_drew)); exact Kd.R_mono (Kd.R_far (p := ⟨gb938, 4, none⟩) (Kd.R_far (p := ⟨gb938, 3, none⟩) (Kd.R_far (p := ⟨gb938, 2, none⟩) (Kd.R_far (p := ⟨gb938, 1, none⟩) (Kd.R_far (p := ⟨gb938, 0, none⟩) (Kd.R_far (p := ⟨gb937, 4, none⟩) (Kd.R_far (p := ⟨gb937, 3, none⟩) (Kd.R_far (p := ⟨gb937, 2, none⟩) (Kd.R_far (p := ⟨gb937, 1, none⟩) (Kd.R_far (p := ⟨gb937, 0, none⟩) (Kd.R_far (p := ⟨gb936, 4, none⟩) (Kd.R_far (p := ⟨gb936, 3, none⟩) (Kd.R_far (p := ⟨gb936, 2, none⟩) (Kd.R_far (p := ⟨gb936, 1, none⟩) (Kd.R_far (p := ⟨gb936, 0, none⟩) (Kd.R_types (Kd.R_types (Kd.R_types HO965.out BK936.out (by decide)) BK937.out (by decide)) BK938.out (by decide)) (fun _ hk => hk.1.1.2) (.int .i64 t939)) (fun _ hk => hk.1.1.2) (.string t940)) (fun _ hk => hk.1.1.2) (.string t941)) (fun _ hk => hk.1.1.2) (.slice Ao28 t942.length co28)) (fun _ hk => hk.1.1.2) (.slice Ao30 t945.length co30)) (fun _ hk => hk.1.2) (.int .i64 t948)) (fun _ hk => hk.1.2) (.string t949)) (fun _ hk => hk.1.2) (.string t950)) (fun _ hk => hk.1.2) (.slice Ao35 t951.length co35)) (fun _ hk => hk.1.2) (.slice Ao37 t954.length co37)) (fun _ hk => hk.2) (.int .i64 t957)) (fun _ hk => hk.2) (.string t958)) (fun _ hk => hk.2) (.string t959)) (fun _ hk => hk.2) (.slice Ao42 t960.length co42)) (fun _ hk => hk.2) (.slice Ao44 t963.length co44)) (fun _ hk => ⟨hk.1.1.1.1.1.1.2, ⟨hk.1.1.1.1.1.2, ⟨hk.1.1.1.1.2, ⟨hk.1.1.1.2, hk.1.1.1.1.1.1.1⟩⟩⟩⟩)⟩
      have n6_ : Aside0 ((((((((((((((((w24.setCell ⟨gb936, 0, none⟩ (.int .i64 t939)).setCell ⟨gb936, 1, none⟩ (.string t940)).setCell ⟨gb936, 2, none⟩ (.string t941)).setCell ⟨gb936, 3, none⟩ (.slice Ao28 t942.length co28)).setCell ⟨gb936, 4, none⟩ (.slice Ao30 t945.length co30)).setCell ⟨gb937, 0, none⟩ (.int .i64 t948)).setCell ⟨gb937, 1, none⟩ (.string t949)).setCell ⟨gb937, 2, none⟩ (.string t950)).setCell ⟨gb937, 3, none⟩ (.slice Ao35 t951.length co35)).setCell ⟨gb937, 4, none⟩ (.slice Ao37 t954.length co37)).setCell ⟨gb938, 0, none⟩ (.int .i64 t957)).setCell ⟨gb938, 1, none⟩ (.string t958)).setCell ⟨gb938, 2, none⟩ (.string t959)).setCell ⟨gb938, 3, none⟩ (.slice Ao42 t960.length co42)).setCell ⟨gb938, 4, none⟩ (.slice Ao44 t963.length co44)).heap[gb936]? = some (.cells #[.int .i64 t939, .string t940, .string t941, .slice Ao28 t942.length co28, .slice Ao30 t945.length co30] 26 (0, 0))) := ⟨by (with_reducible repeat (first | refine blk_drewN ?_ _ | refine blk_drew ?_ | refine blk_alloc ?_ _)); refine blk_far ?_ NB936_938.out _; (with_reducible repeat (first | refine blk_drewN ?_ _ | refine blk_drew ?_ | refine blk_alloc ?_ _)); refine blk_far ?_ NB936_938.out _; (with_reducible repeat (first | refine blk_drewN ?_ _ | refine blk_drew ?_ | refine blk_alloc ?_ _)); refine blk_far ?_ NB936_938.out _; (with_reducible repeat (first | refine blk_drewN ?_ _ | refine blk_drew ?_ | refine blk_alloc ?_ _)); refine blk_far ?_ NB936_938.out _; (with_reducible repeat (first | refine blk_drewN ?_ _ | refine blk_drew ?_ | refine blk_alloc ?_ _)); refine blk_far ?_ NB936_938.out _; (with_reducible repeat (first | refine blk_drewN ?_ _ | refine blk_drew ?_ | refine blk_alloc ?_ _)); refine blk_far ?_ NB936_937.out _; (with_reducible repeat (first | refine blk_drewN ?_ _ | refine blk_drew ?_ | refine blk_alloc ?_ _)); refine blk_far ?_ NB936_937.out _; (with_reducible repeat (first | refine blk_drewN ?_ _ | refine blk_drew ?_ | refine blk_alloc ?_ _)); refine blk_far ?_ NB936_937.out _; (with_reducible repeat (first | refine blk_drewN ?_ _ | refine blk_drew ?_ | refine blk_alloc ?_ _)); refine blk_far ?_ NB936_937.out _; (with_reducible repeat (first | refine blk_drewN ?_ _ | refine blk_drew ?_ | refine blk_alloc ?_ _)); refine blk_far ?_ NB936_937.out _; (with_reducible repeat (first | refine blk_drewN ?_ _ | refine blk_drew ?_ | refine blk_alloc ?_ _)); refine blk_put (cs := #[.int .i64 t939, .string t940, .string t941, .slice Ao28 t942.length co28, .slice A0_4 l0_4.length c0_4]) ?_ 4 _ rfl; (with_reducible repeat (first | refine blk_drewN ?_ _ | refine blk_drew ?_ | refine blk_alloc ?_ _)); refine blk_put (cs := #[.int .i64 t939, .string t940, .string t941, .slice A0_3 l0_3.length c0_3, .slice A0_4 l0_4.length c0_4]) ?_ 3 _ rfl; (with_reducible repeat (first | refine blk_drewN ?_ _ | refine blk_drew ?_ | refine blk_alloc ?_ _)); refine blk_put (cs := #[.int .i64 t939, .string t940, .string a0_2, .slice A0_3 l0_3.length c0_3, .slice A0_4 l0_4.length c0_4]) ?_ 2 _ rfl; (with_reducible repeat (first | refine blk_drewN ?_ _ | refine blk_drew ?_ | refine blk_alloc ?_ _)); refine blk_put (cs := #[.int .i64 t939, .string a0_1, .string a0_2, .slice A0_3 l0_3.length c0_3, .slice A0_4 l0_4.length c0_4]) ?_ 1 _ rfl; (with_reducible repeat (first | refine blk_drewN ?_ _ | refine blk_drew ?_ | refine blk_alloc ?_ _)); refine blk_put (cs := #[.int .i64 a0_0, .string a0_1, .string a0_2, .slice A0_3 l0_3.length c0_3, .slice A0_4 l0_4.length c0_4]) ?_ 0 _ rfl; (with_reducible repeat (first | refine blk_drewN ?_ _ | refine blk_drew ?_ | refine blk_alloc ?_ _)); exact BK936.out⟩
      have n7_ : Aside0 ((((((((((((((((w24.setCell ⟨gb936, 0, none⟩ (.int .i64 t939)).setCell ⟨gb936, 1, none⟩ (.string t940)).setCell ⟨gb936, 2, none⟩ (.string t941)).setCell ⟨gb936, 3, none⟩ (.slice Ao28 t942.length co28)).setCell ⟨gb936, 4, none⟩ (.slice Ao30 t945.length co30)).setCell ⟨gb937, 0, none⟩ (.int .i64 t948)).setCell ⟨gb937, 1, none⟩ (.string t949)).setCell ⟨gb937, 2, none⟩ (.string t950)).setCell ⟨gb937, 3, none⟩ (.slice Ao35 t951.length co35)).setCell ⟨gb937, 4, none⟩ (.slice Ao37 t954.length co37)).setCell ⟨gb938, 0, none⟩ (.int .i64 t957)).setCell ⟨gb938, 1, none⟩ (.string t958)).setCell ⟨gb938, 2, none⟩ (.string t959)).setCell ⟨gb938, 3, none⟩ (.slice Ao42 t960.length co42)).setCell ⟨gb938, 4, none⟩ (.slice Ao44 t963.length co44)).heap[gb937]? = some (.cells #[.int .i64 t948, .string t949, .string t950, .slice Ao35 t951.length co35, .slice Ao37 t954.length co37] 26 (0, 0))) := ⟨by (with_reducible repeat (first | refine blk_drewN ?_ _ | refine blk_drew ?_ | refine blk_alloc ?_ _)); refine blk_far ?_ NB937_938.out _; (with_reducible repeat (first | refine blk_drewN ?_ _ | refine blk_drew ?_ | refine blk_alloc ?_ _)); refine blk_far ?_ NB937_938.out _; (with_reducible repeat (first | refine blk_drewN ?_ _ | refine blk_drew ?_ | refine blk_alloc ?_ _)); refine blk_far ?_ NB937_938.out _; (with_reducible repeat (first | refine blk_drewN ?_ _ | refine blk_drew ?_ | refine blk_alloc ?_ _)); refine blk_far ?_ NB937_938.out _; (with_reducible repeat (first | refine blk_drewN ?_ _ | refine blk_drew ?_ | refine blk_alloc ?_ _)); refine blk_far ?_ NB937_938.out _; (with_reducible repeat (first | refine blk_drewN ?_ _ | refine blk_drew ?_ | refine blk_alloc ?_ _)); refine blk_put (cs := #[.int .i64 t948, .string t949, .string t950, .slice Ao35 t951.length co35, .slice A1_4 l1_4.length c1_4]) ?_ 4 _ rfl; (with_reducible repeat (first | refine blk_drewN ?_ _ | refine blk_drew ?_ | refine blk_alloc ?_ _)); refine blk_put (cs := #[.int .i64 t948, .string t949, .string t950, .slice A1_3 l1_3.length c1_3, .slice A1_4 l1_4.length c1_4]) ?_ 3 _ rfl; (with_reducible repeat (first | refine blk_drewN ?_ _ | refine blk_drew ?_ | refine blk_alloc ?_ _)); refine blk_put (cs := #[.int .i64 t948, .string t949, .string a1_2, .slice A1_3 l1_3.length c1_3, .slice A1_4 l1_4.length c1_4]) ?_ 2 _ rfl; (with_reducible repeat (first | refine blk_drewN ?_ _ | refine blk_drew ?_ | refine blk_alloc ?_ _)); refine blk_put (cs := #[.int .i64 t948, .string a1_1, .string a1_2, .slice A1_3 l1_3.length c1_3, .slice A1_4 l1_4.length c1_4]) ?_ 1 _ rfl; (with_reducible repeat (first | refine blk_drewN ?_ _ | refine blk_drew ?_ | refine blk_alloc ?_ _)); refine blk_put (cs := #[.int .i64 a1_0, .string a1_1, .string a1_2, .slice A1_3 l1_3.length c1_3, .slice A1_4 l1_4.length c1_4]) ?_ 0 _ rfl; (with_reducible repeat (first | refine blk_drewN ?_ _ | refine blk_drew ?_ | refine blk_alloc ?_ _)); refine blk_far ?_ NB937_936.out _; (with_reducible repeat (first | refine blk_drewN ?_ _ | refine blk_drew ?_ | refine blk_alloc ?_ _)); refine blk_far ?_ NB937_936.out _; (with_reducible repeat (first | refine blk_drewN ?_ _ | refine blk_drew ?_ | refine blk_alloc ?_ _)); refine blk_far ?_ NB937_936.out _; (with_reducible repeat (first | refine blk_drewN ?_ _ | refine blk_drew ?_ | refine blk_alloc ?_ _)); refine blk_far ?_ NB937_936.out _; (with_reducible repeat (first | refine blk_drewN ?_ _ | refine blk_drew ?_ | refine blk_alloc ?_ _)); refine blk_far ?_ NB937_936.out _; (with_reducible repeat (first | refine blk_drewN ?_ _ | refine blk_drew ?_ | refine blk_alloc ?_ _)); exact BK937.out⟩
      have n8_ : Aside0 ((((((((((((((((w24.setCell ⟨gb936, 0, none⟩ (.int .i64 t939)).setCell ⟨gb936, 1, none⟩ (.string t940)).setCell ⟨gb936, 2, none⟩ (.string t941)).setCell ⟨gb936, 3, none⟩ (.slice Ao28 t942.length co28)).setCell ⟨gb936, 4, none⟩ (.slice Ao30 t945.length co30)).setCell ⟨gb937, 0, none⟩ (.int .i64 t948)).setCell ⟨gb937, 1, none⟩ (.string t949)).setCell ⟨gb937, 2, none⟩ (.string t950)).setCell ⟨gb937, 3, none⟩ (.slice Ao35 t951.length co35)).setCell ⟨gb937, 4, none⟩ (.slice Ao37 t954.length co37)).setCell ⟨gb938, 0, none⟩ (.int .i64 t957)).setCell ⟨gb938, 1, none⟩ (.string t958)).setCell ⟨gb938, 2, none⟩ (.string t959)).setCell ⟨gb938, 3, none⟩ (.slice Ao42 t960.length co42)).setCell ⟨gb938, 4, none⟩ (.slice Ao44 t963.length co44)).heap[gb938]? = some (.cells #[.int .i64 t957, .string t958, .string t959, .slice Ao42 t960.length co42, .slice Ao44 t963.length co44] 26 (0, 0))) := ⟨by (with_reducible repeat (first | refine blk_drewN ?_ _ | refine blk_drew ?_ | refine blk_alloc ?_ _)); refine blk_put (cs := #[.int .i64 t957, .string t958, .string t959, .slice Ao42 t960.length co42, .slice A2_4 l2_4.length c2_4]) ?_ 4 _ rfl; (with_reducible repeat (first | refine blk_drewN ?_ _ | refine blk_drew ?_ | refine blk_alloc ?_ _)); refine blk_put (cs := #[.int .i64 t957, .string t958, .string t959, .slice A2_3 l2_3.length c2_3, .slice A2_4 l2_4.length c2_4]) ?_ 3 _ rfl; (with_reducible repeat (first | refine blk_drewN ?_ _ | refine blk_drew ?_ | refine blk_alloc ?_ _)); refine blk_put (cs := #[.int .i64 t957, .string t958, .string a2_2, .slice A2_3 l2_3.length c2_3, .slice A2_4 l2_4.length c2_4]) ?_ 2 _ rfl; (with_reducible repeat (first | refine blk_drewN ?_ _ | refine blk_drew ?_ | refine blk_alloc ?_ _)); refine blk_put (cs := #[.int .i64 t957, .string a2_1, .string a2_2, .slice A2_3 l2_3.length c2_3, .slice A2_4 l2_4.length c2_4]) ?_ 1 _ rfl; (with_reducible repeat (first | refine blk_drewN ?_ _ | refine blk_drew ?_ | refine blk_alloc ?_ _)); refine blk_put (cs := #[.int .i64 a2_0, .string a2_1, .string a2_2, .slice A2_3 l2_3.length c2_3, .slice A2_4 l2_4.length c2_4]) ?_ 0 _ rfl; (with_reducible repeat (first | refine blk_drewN ?_ _ | refine blk_drew ?_ | refine blk_alloc ?_ _)); refine blk_far ?_ NB938_937.out _; (with_reducible repeat (first | refine blk_drewN ?_ _ | refine blk_drew ?_ | refine blk_alloc ?_ _)); refine blk_far ?_ NB938_937.out _; (with_reducible repeat (first | refine blk_drewN ?_ _ | refine blk_drew ?_ | refine blk_alloc ?_ _)); refine blk_far ?_ NB938_937.out _; (with_reducible repeat (first | refine blk_drewN ?_ _ | refine blk_drew ?_ | refine blk_alloc ?_ _)); refine blk_far ?_ NB938_937.out _; (with_reducible repeat (first | refine blk_drewN ?_ _ | refine blk_drew ?_ | refine blk_alloc ?_ _)); refine blk_far ?_ NB938_937.out _; (with_reducible repeat (first | refine blk_drewN ?_ _ | refine blk_drew ?_ | refine blk_alloc ?_ _)); refine blk_far ?_ NB938_936.out _; (with_reducible repeat (first | refine blk_drewN ?_ _ | refine blk_drew ?_ | refine blk_alloc ?_ _)); refine blk_far ?_ NB938_936.out _; (with_reducible repeat (first | refine blk_drewN ?_ _ | refine blk_drew ?_ | refine blk_alloc ?_ _)); refine blk_far ?_ NB938_936.out _; (with_reducible repeat (first | refine blk_drewN ?_ _ | refine blk_drew ?_ | refine blk_alloc ?_ _)); refine blk_far ?_ NB938_936.out _; (with_reducible repeat (first | refine blk_drewN ?_ _ | refine blk_drew ?_ | refine blk_alloc ?_ _)); refine blk_far ?_ NB938_936.out _; (with_reducible repeat (first | refine blk_drewN ?_ _ | refine blk_drew ?_ | refine blk_alloc ?_ _)); exact BK938.out⟩
      have n9_ : Aside0 (Below w.heap.size w (((((((((((((((w24.setCell ⟨gb936, 0, none⟩ (.int .i64 t939)).setCell ⟨gb936, 1, none⟩ (.string t940)).setCell ⟨gb936, 2, none⟩ (.string t941)).setCell ⟨gb936, 3, none⟩ (.slice Ao28 t942.length co28)).setCell ⟨gb936, 4, none⟩ (.slice Ao30 t945.length co30)).setCell ⟨gb937, 0, none⟩ (.int .i64 t948)).setCell ⟨gb937, 1, none⟩ (.string t949)).setCell ⟨gb937, 2, none⟩ (.string t950)).setCell ⟨gb937, 3, none⟩ (.slice Ao35 t951.length co35)).setCell ⟨gb937, 4, none⟩ (.slice Ao37 t954.length co37)).setCell ⟨gb938, 0, none⟩ (.int .i64 t957)).setCell ⟨gb938, 1, none⟩ (.string t958)).setCell ⟨gb938, 2, none⟩ (.string t959)).setCell ⟨gb938, 3, none⟩ (.slice Ao42 t960.length co42)).setCell ⟨gb938, 4, none⟩ (.slice Ao44 t963.length co44))) := ⟨bel_ HB.out⟩
      (try clear HO944)
      (try clear HO947)
      (try clear HO953)
      (try clear HO956)
      (try clear HO962)
      (try clear HO965)
      (try clear BK936)
      (try clear BK937)
      (try clear BK938)
      (try clear HB)
      generalize (((((((((((((((w24.setCell ⟨gb936, 0, none⟩ (.int .i64 t939)).setCell ⟨gb936, 1, none⟩ (.string t940)).setCell ⟨gb936, 2, none⟩ (.string t941)).setCell ⟨gb936, 3, none⟩ (.slice Ao28 t942.length co28)).setCell ⟨gb936, 4, none⟩ (.slice Ao30 t945.length co30)).setCell ⟨gb937, 0, none⟩ (.int .i64 t948)).setCell ⟨gb937, 1, none⟩ (.string t949)).setCell ⟨gb937, 2, none⟩ (.string t950)).setCell ⟨gb937, 3, none⟩ (.slice Ao35 t951.length co35)).setCell ⟨gb937, 4, none⟩ (.slice Ao37 t954.length co37)).setCell ⟨gb938, 0, none⟩ (.int .i64 t957)).setCell ⟨gb938, 1, none⟩ (.string t958)).setCell ⟨gb938, 2, none⟩ (.string t959)).setCell ⟨gb938, 3, none⟩ (.slice Ao42 t960.length co42)).setCell ⟨gb938, 4, none⟩ (.slice Ao44 t963.length co44)) = w46 at n0_ n1_ n2_ n3_ n4_ n5_ n6_ n7_ n8_ n9_ ⊢
      have HO944 := n0_
      have HO947 := n1_
      have HO953 := n2_
      have HO956 := n3_
      have HO962 := n4_
      have HO965 := n5_
      have BK936 := n6_
      have BK937 := n7_
      have BK938 := n8_
      have HB := n9_
      clear n0_ n1_ n2_ n3_ n4_ n5_ n6_ n7_ n8_ n9_
      have n0_ := am_ (Kd.R_drew HO944.out)
      have n1_ := am_ (Kd.R_drew HO947.out)
      have n2_ := am_ (Kd.R_drew HO953.out)
      have n3_ := am_ (Kd.R_drew HO956.out)
      have n4_ := am_ (Kd.R_drew HO962.out)
      have n5_ := am_ (Kd.R_drew HO965.out)
      have n6_ := am_ (blk_drew BK936.out)
      have n7_ := am_ (blk_drew BK937.out)
      have n8_ := am_ (blk_drew BK938.out)
      have n9_ := am_ (below_drew1 HB.out)
      clear HO944 HO947 HO953 HO956 HO962 HO965 BK936 BK937 BK938 HB
      have HO944 := n0_
      have HO947 := n1_
      have HO953 := n2_
      have HO956 := n3_
      have HO962 := n4_
      have HO965 := n5_
      have BK936 := n6_
      have BK937 := n7_
      have BK938 := n8_
      have HB := n9_
      clear n0_ n1_ n2_ n3_ n4_ n5_ n6_ n7_ n8_ n9_
      refine start_ (n := 12) (S := fun w' => w'.cell? ⟨gb936, 0, none⟩ = some (.int .i64 t939) ∧ w'.cell? ⟨gb936, 1, none⟩ = some (.string t940) ∧ w'.cell? ⟨gb936, 2, none⟩ = some (.string t941) ∧ w'.cell? ⟨gb936, 3, none⟩ = some (.slice Ao28 t942.length co28) ∧ w'.cell? ⟨gb936, 4, none⟩ = some (.slice Ao30 t945.length co30) ∧ w'.cell? ⟨gb937, 0, none⟩ = some (.int .i64 t948) ∧ w'.cell? ⟨gb937, 1, none⟩ = some (.string t949) ∧ w'.cell? ⟨gb937, 2, none⟩ = some (.string t950) ∧ w'.cell? ⟨gb937, 3, none⟩ = some (.slice Ao35 t951.length co35) ∧ w'.cell? ⟨gb937, 4, none⟩ = some (.slice Ao37 t954.length co37) ∧ w'.cell? ⟨gb938, 0, none⟩ = some (.int .i64 t957) ∧ w'.cell? ⟨gb938, 1, none⟩ = some (.string t958) ∧ w'.cell? ⟨gb938, 2, none⟩ = some (.string t959) ∧ w'.cell? ⟨gb938, 3, none⟩ = some (.slice Ao42 t960.length co42) ∧ w'.cell? ⟨gb938, 4, none⟩ = some (.slice Ao44 t963.length co44)) (ds := []) #[false, false, false, false, false, false, false, false, false, false, false, false] kr_ rfl rfl ⟨(blk_cell BK936.out 0).trans rfl, (blk_cell BK936.out 1).trans rfl, (blk_cell BK936.out 2).trans rfl, (blk_cell BK936.out 3).trans rfl, (blk_cell BK936.out 4).trans rfl, (blk_cell BK937.out 0).trans rfl, (blk_cell BK937.out 1).trans rfl, (blk_cell BK937.out 2).trans rfl, (blk_cell BK937.out 3).trans rfl, (blk_cell BK937.out 4).trans rfl, (blk_cell BK938.out 0).trans rfl, (blk_cell BK938.out 1).trans rfl, (blk_cell BK938.out 2).trans rfl, (blk_cell BK938.out 3).trans rfl, (blk_cell BK938.out 4).trans rfl⟩ (fun hHeld => ?_); refine with_tabW tolllaw06_RuleRanks_g5.tab2 tolllaw06_RuleRanks_g5.bits2 (fun HT_ HW_ => ?_)
      generalize w46.drew = w47 at HO944 HO947 HO953 HO956 HO962 HO965 BK936 BK937 BK938 HB hHeld ⊢
      refine take_ (i := 0) (N := some 16) (v := ?_) (a' := ?_) #[true, false, false, false, false, false, false, false, false, false, false, false] rfl rfl (take_ofW HT_.out HW_.out kr_) (fun _ _ _ h => h) (Or.inl ⟨by rfl, ?_⟩) hHeld ?_ ?_
      rotate_left
      ·rintro w' ⟨s0, s1, s2, s3, s4, s5, s6, s7, s8, s9, s10, s11, s12, s13, s14⟩
       go_simp
       with_reducible rfl
      rotate_left
      ·simp only [Act.put, sx_, s0_, s1_, i64_w, i32_w]
       rfl
      refine take_ (i := 1) (N := some 17) (v := ?_) (a' := ?_) #[true, true, false, false, false, false, false, false, false, false, false, false] rfl rfl (take_ofW HT_.out HW_.out kr_) (fun _ _ _ h => h) (Or.inl ⟨by rfl, ?_⟩) hHeld ?_ ?_
      rotate_left
      ·rintro w' ⟨s0, s1, s2, s3, s4, s5, s6, s7, s8, s9, s10, s11, s12, s13, s14⟩
       go_simp
       with_reducible rfl
      rotate_left
      ·simp only [Act.put, sx_, s0_, s1_, i64_w, i32_w]
       rfl
      refine take_ (i := 3) (N := some 19) (v := ?_) (a' := ?_) #[true, true, false, true, false, false, false, false, false, false, false, false] rfl rfl (take_ofW HT_.out HW_.out kr_) (fun _ _ _ h => h) (Or.inl ⟨by rfl, ?_⟩) hHeld ?_ ?_
      rotate_left
      ·rintro w' ⟨s0, s1, s2, s3, s4, s5, s6, s7, s8, s9, s10, s11, s12, s13, s14⟩
       go_simp
       with_reducible rfl
      rotate_left
      ·simp only [Act.put, sx_, s0_, s1_, i64_w, i32_w]
       rfl
      refine take_ (i := 4) (N := some 20) (v := ?_) (a' := ?_) #[true, true, false, true, true, false, false, false, false, false, false, false] rfl rfl (take_ofW HT_.out HW_.out kr_) (fun _ _ _ h => h) (Or.inl ⟨by rfl, ?_⟩) hHeld ?_ ?_
      rotate_left
      ·rintro w' ⟨s0, s1, s2, s3, s4, s5, s6, s7, s8, s9, s10, s11, s12, s13, s14⟩
       go_simp
       with_reducible rfl
      rotate_left
      ·simp only [Act.put, sx_, s0_, s1_, i64_w, i32_w]
       rfl
      refine take_ (i := 6) (N := some 22) (v := ?_) (a' := ?_) #[true, true, false, true, true, false, true, false, false, false, false, false] rfl rfl (take_ofW HT_.out HW_.out kr_) (fun _ _ _ h => h) (Or.inl ⟨by rfl, ?_⟩) hHeld ?_ ?_
      rotate_left
      ·rintro w' ⟨s0, s1, s2, s3, s4, s5, s6, s7, s8, s9, s10, s11, s12, s13, s14⟩
       go_simp
       with_reducible rfl
      rotate_left
      ·simp only [Act.put, sx_, s0_, s1_, i64_w, i32_w]
       rfl
      refine take_ (i := 7) (N := some 23) (v := ?_) (a' := ?_) #[true, true, false, true, true, false, true, true, false, false, false, false] rfl rfl (take_ofW HT_.out HW_.out kr_) (fun _ _ _ h => h) (Or.inl ⟨by rfl, ?_⟩) hHeld ?_ ?_
      rotate_left
      ·rintro w' ⟨s0, s1, s2, s3, s4, s5, s6, s7, s8, s9, s10, s11, s12, s13, s14⟩
       go_simp
       with_reducible rfl
      rotate_left
      ·simp only [Act.put, sx_, s0_, s1_, i64_w, i32_w]
       rfl
      refine one_ (i := 2) (N := some 18) #[true, true, true, true, true, false, true, true, false, false, false, false] rfl rfl (one_of HT_.out kr_) (by decide) (fun K hK => ?_)
      refine goes_ Tryd.func19 kr_ rfl #[.agg #[.int .i64 t939, .string t940, .string t941, .slice Ao28 t942.length co28, .slice Ao30 t945.length co30], .agg #[.int .i64 t948, .string t949, .string t950, .slice Ao35 t951.length co35, .slice Ao37 t954.length co37]] (by rfl) rfl rfl rl_ ?_
      with_reducible refine (rule_Order.calls t939 t940 t941 _ _ t942 _ _ t945 t948 t949 t950 _ _ t951 _ _ t954 t966 _ ?side1 ?side2 ?side3 ?side4 ?side5 ?side6 ?side7 ?side8 A7.out).mono ?_
      (case side1 => exact C_ (Kd.R_reads' HO944.out).2.2)
      (case side2 => exact (Kd.R_reads' HO944.out).2.1)
      (case side3 => exact C_ (Kd.R_reads' HO947.out).2.2)
      (case side4 => exact (Kd.R_reads' HO947.out).2.1)
      (case side5 => exact C_ (Kd.R_reads' HO953.out).2.2)
      (case side6 => exact (Kd.R_reads' HO953.out).2.1)
      (case side7 => exact C_ (Kd.R_reads' HO956.out).2.2)
      (case side8 => exact (Kd.R_reads' HO956.out).2.1)
      rintro e w48 ⟨rfl, hb⟩
      refine ⟨_, rfl, ?_⟩
      have n0_ := am_ (Kd.R_below (R_ HO944.out) hb)
      have n1_ := am_ (Kd.R_below (R_ HO947.out) hb)
      have n2_ := am_ (Kd.R_below (R_ HO953.out) hb)
      have n3_ := am_ (Kd.R_below (R_ HO956.out) hb)
      have n4_ := am_ (Kd.R_below (R_ HO962.out) hb)
      have n5_ := am_ (Kd.R_below (R_ HO965.out) hb)
      have n6_ := am_ (blk_below (g := gb936) (o := .cells #[.int .i64 t939, .string t940, .string t941, .slice Ao28 t942.length co28, .slice Ao30 t945.length co30] 26 (0, 0)) (blk_ BK936.out) hb)
      have n7_ := am_ (blk_below (g := gb937) (o := .cells #[.int .i64 t948, .string t949, .string t950, .slice Ao35 t951.length co35, .slice Ao37 t954.length co37] 26 (0, 0)) (blk_ BK937.out) hb)
      have n8_ := am_ (blk_below (g := gb938) (o := .cells #[.int .i64 t957, .string t958, .string t959, .slice Ao42 t960.length co42, .slice Ao44 t963.length co44] 26 (0, 0)) (blk_ BK938.out) hb)
      have n9_ := am_ (below_step (bel_ HB.out) hb)
      clear HO944 HO947 HO953 HO956 HO962 HO965 BK936 BK937 BK938 HB
      have HO944 := n0_
      have HO947 := n1_
      have HO953 := n2_
      have HO956 := n3_
      have HO962 := n4_
      have HO965 := n5_
      have BK936 := n6_
      have BK937 := n7_
      have BK938 := n8_
      have HB := n9_
      clear n0_ n1_ n2_ n3_ n4_ n5_ n6_ n7_ n8_ n9_
      (try clear hb)
      (try clear hb2)
      (try clear hk)
      (try clear hi)
      refine hK.out _ _ ⟨(blk_cell BK936.out 0).trans rfl, (blk_cell BK936.out 1).trans rfl, (blk_cell BK936.out 2).trans rfl, (blk_cell BK936.out 3).trans rfl, (blk_cell BK936.out 4).trans rfl, (blk_cell BK937.out 0).trans rfl, (blk_cell BK937.out 1).trans rfl, (blk_cell BK937.out 2).trans rfl, (blk_cell BK937.out 3).trans rfl, (blk_cell BK937.out 4).trans rfl, (blk_cell BK938.out 0).trans rfl, (blk_cell BK938.out 1).trans rfl, (blk_cell BK938.out 2).trans rfl, (blk_cell BK938.out 3).trans rfl, (blk_cell BK938.out 4).trans rfl⟩ (fun hHeld => ?_)
      clear hK K
      refine norm_ (a' := ?_) ?_ ?_
      rotate_left
      ·show Act.put _ (some 18) _ = _
       simp only [Act.put, sx_, s0_, s1_, i64_w, i32_w]
       rfl
      refine one_ (i := 5) (N := some 21) #[true, true, true, true, true, true, true, true, false, false, false, false] rfl rfl (one_of HT_.out kr_) (by decide) (fun K hK => ?_)
      refine goes_ Tryd.func19 kr_ rfl #[.agg #[.int .i64 t948, .string t949, .string t950, .slice Ao35 t951.length co35, .slice Ao37 t954.length co37], .agg #[.int .i64 t957, .string t958, .string t959, .slice Ao42 t960.length co42, .slice Ao44 t963.length co44]] (by rfl) rfl rfl rl_ ?_
      with_reducible refine (rule_Order.calls t948 t949 t950 _ _ t951 _ _ t954 t957 t958 t959 _ _ t960 _ _ t963 t967 _ ?side1 ?side2 ?side3 ?side4 ?side5 ?side6 ?side7 ?side8 A8.out).mono ?_
      (case side1 => exact C_ (Kd.R_reads' HO953.out).2.2)
      (case side2 => exact (Kd.R_reads' HO953.out).2.1)
      (case side3 => exact C_ (Kd.R_reads' HO956.out).2.2)
      (case side4 => exact (Kd.R_reads' HO956.out).2.1)
      (case side5 => exact C_ (Kd.R_reads' HO962.out).2.2)
      (case side6 => exact (Kd.R_reads' HO962.out).2.1)
      (case side7 => exact C_ (Kd.R_reads' HO965.out).2.2)
      (case side8 => exact (Kd.R_reads' HO965.out).2.1)
      rintro e w49 ⟨rfl, hb⟩
      refine ⟨_, rfl, ?_⟩
      have n0_ := am_ (Kd.R_below (R_ HO944.out) hb)
      have n1_ := am_ (Kd.R_below (R_ HO947.out) hb)
      have n2_ := am_ (Kd.R_below (R_ HO953.out) hb)
      have n3_ := am_ (Kd.R_below (R_ HO956.out) hb)
      have n4_ := am_ (Kd.R_below (R_ HO962.out) hb)
      have n5_ := am_ (Kd.R_below (R_ HO965.out) hb)
      have n6_ := am_ (blk_below (g := gb936) (o := .cells #[.int .i64 t939, .string t940, .string t941, .slice Ao28 t942.length co28, .slice Ao30 t945.length co30] 26 (0, 0)) (blk_ BK936.out) hb)
      have n7_ := am_ (blk_below (g := gb937) (o := .cells #[.int .i64 t948, .string t949, .string t950, .slice Ao35 t951.length co35, .slice Ao37 t954.length co37] 26 (0, 0)) (blk_ BK937.out) hb)
      have n8_ := am_ (blk_below (g := gb938) (o := .cells #[.int .i64 t957, .string t958, .string t959, .slice Ao42 t960.length co42, .slice Ao44 t963.length co44] 26 (0, 0)) (blk_ BK938.out) hb)
      have n9_ := am_ (below_step (bel_ HB.out) hb)
      clear HO944 HO947 HO953 HO956 HO962 HO965 BK936 BK937 BK938 HB
      have HO944 := n0_
      have HO947 := n1_
      have HO953 := n2_
      have HO956 := n3_
      have HO962 := n4_
      have HO965 := n5_
      have BK936 := n6_
      have BK937 := n7_
      have BK938 := n8_
      have HB := n9_
      clear n0_ n1_ n2_ n3_ n4_ n5_ n6_ n7_ n8_ n9_
      (try clear hb)
      (try clear hb2)
      (try clear hk)
      (try clear hi)
      refine hK.out _ _ ⟨(blk_cell BK936.out 0).trans rfl, (blk_cell BK936.out 1).trans rfl, (blk_cell BK936.out 2).trans rfl, (blk_cell BK936.out 3).trans rfl, (blk_cell BK936.out 4).trans rfl, (blk_cell BK937.out 0).trans rfl, (blk_cell BK937.out 1).trans rfl, (blk_cell BK937.out 2).trans rfl, (blk_cell BK937.out 3).trans rfl, (blk_cell BK937.out 4).trans rfl, (blk_cell BK938.out 0).trans rfl, (blk_cell BK938.out 1).trans rfl, (blk_cell BK938.out 2).trans rfl, (blk_cell BK938.out 3).trans rfl, (blk_cell BK938.out 4).trans rfl⟩ (fun hHeld => ?_)
      clear hK K
      refine norm_ (a' := ?_) ?_ ?_
      rotate_left
      ·show Act.put _ (some 21) _ = _
       simp only [Act.put, sx_, s0_, s1_, i64_w, i32_w]
       rfl
      refine one_ (i := 8) (N := some 24) #[true, true, true, true, true, true, true, true, true, false, false, false] rfl rfl (one_of HT_.out kr_) (by decide) (fun K hK => ?_)
      refine goes_ Tryd.func19 kr_ rfl #[.agg #[.int .i64 t939, .string t940, .string t941, .slice Ao28 t942.length co28, .slice Ao30 t945.length co30], .agg #[.int .i64 t957, .string t958, .string t959, .slice Ao42 t960.length co42, .slice Ao44 t963.length co44]] (by rfl) rfl rfl rl_ ?_
      with_reducible refine (rule_Order.calls t939 t940 t941 _ _ t942 _ _ t945 t957 t958 t959 _ _ t960 _ _ t963 t968 _ ?side1 ?side2 ?side3 ?side4 ?side5 ?side6 ?side7 ?side8 A9.out).mono ?_
      (case side1 => exact C_ (Kd.R_reads' HO944.out).2.2)
      (case side2 => exact (Kd.R_reads' HO944.out).2.1)
      (case side3 => exact C_ (Kd.R_reads' HO947.out).2.2)
      (case side4 => exact (Kd.R_reads' HO947.out).2.1)
      (case side5 => exact C_ (Kd.R_reads' HO962.out).2.2)
      (case side6 => exact (Kd.R_reads' HO962.out).2.1)
      (case side7 => exact C_ (Kd.R_reads' HO965.out).2.2)
      (case side8 => exact (Kd.R_reads' HO965.out).2.1)
      rintro e w50 ⟨rfl, hb⟩
      refine ⟨_, rfl, ?_⟩
      have n0_ := am_ (Kd.R_below (R_ HO944.out) hb)
      have n1_ := am_ (Kd.R_below (R_ HO947.out) hb)
      have n2_ := am_ (Kd.R_below (R_ HO953.out) hb)
      have n3_ := am_ (Kd.R_below (R_ HO956.out) hb)
      have n4_ := am_ (Kd.R_below (R_ HO962.out) hb)
      have n5_ := am_ (Kd.R_below (R_ HO965.out) hb)
      have n6_ := am_ (blk_below (g := gb936) (o := .cells #[.int .i64 t939, .string t940, .string t941, .slice Ao28 t942.length co28, .slice Ao30 t945.length co30] 26 (0, 0)) (blk_ BK936.out) hb)
      have n7_ := am_ (blk_below (g := gb937) (o := .cells #[.int .i64 t948, .string t949, .string t950, .slice Ao35 t951.length co35, .slice Ao37 t954.length co37] 26 (0, 0)) (blk_ BK937.out) hb)
      have n8_ := am_ (blk_below (g := gb938) (o := .cells #[.int .i64 t957, .string t958, .string t959, .slice Ao42 t960.length co42, .slice Ao44 t963.length co44] 26 (0, 0)) (blk_ BK938.out) hb)
      have n9_ := am_ (below_step (bel_ HB.out) hb)
      clear HO944 HO947 HO953 HO956 HO962 HO965 BK936 BK937 BK938 HB
      have HO944 := n0_
      have HO947 := n1_
      have HO953 := n2_
      have HO956 := n3_
      have HO962 := n4_
      have HO965 := n5_
      have BK936 := n6_
      have BK937 := n7_
      have BK938 := n8_
      have HB := n9_
      clear n0_ n1_ n2_ n3_ n4_ n5_ n6_ n7_ n8_ n9_
      (try clear hb)
      (try clear hb2)
      (try clear hk)
      (try clear hi)
      refine hK.out _ _ ⟨(blk_cell BK936.out 0).trans rfl, (blk_cell BK936.out 1).trans rfl, (blk_cell BK936.out 2).trans rfl, (blk_cell BK936.out 3).trans rfl, (blk_cell BK936.out 4).trans rfl, (blk_cell BK937.out 0).trans rfl, (blk_cell BK937.out 1).trans rfl, (blk_cell BK937.out 2).trans rfl, (blk_cell BK937.out 3).trans rfl, (blk_cell BK937.out 4).trans rfl, (blk_cell BK938.out 0).trans rfl, (blk_cell BK938.out 1).trans rfl, (blk_cell BK938.out 2).trans rfl, (blk_cell BK938.out 3).trans rfl, (blk_cell BK938.out 4).trans rfl⟩ (fun hHeld => ?_)
      clear hK K
      refine norm_ (a' := ?_) ?_ ?_
      rotate_left
      ·show Act.put _ (some 24) _ = _
       simp only [Act.put, sx_, s0_, s1_, i64_w, i32_w]
       rfl
      refine pure_ (i := 9) (N := some 7) (v := ?_) (a' := ?_) #[true, true, true, true, true, true, true, true, true, true, false, false] rfl rfl (any_of HT_.out kr_) (fun _ _ _ h => h) (Or.inl ⟨by rfl, ?_⟩) ?_ ?_
      rotate_left
      ·intro w'
       go_simp
       with_reducible rfl
      rotate_left
      ·simp only [Act.put, sx_, s0_, s1_, i64_w, i32_w]
       rfl
      refine pure_ (i := 10) (N := some 8) (v := ?_) (a' := ?_) #[true, true, true, true, true, true, true, true, true, true, true, false] rfl rfl (any_of HT_.out kr_) (fun _ _ _ h => h) (Or.inl ⟨by rfl, ?_⟩) ?_ ?_
      rotate_left
      ·intro w'
       go_simp
       with_reducible rfl
      rotate_left
      ·simp only [Act.put, sx_, s0_, s1_, i64_w, i32_w]
       rfl
      refine pure_ (i := 11) (N := some 9) (v := ?_) (a' := ?_) #[true, true, true, true, true, true, true, true, true, true, true, true] rfl rfl (any_of HT_.out kr_) (fun _ _ _ h => h) (Or.inl ⟨by rfl, ?_⟩) ?_ ?_
      rotate_left
      ·intro w'
       go_simp
       with_reducible rfl
      rotate_left
      ·simp only [Act.put, sx_, s0_, s1_, i64_w, i32_w]
       rfl
      refine done_ (done_of HT_.out kr_) ?_
      have hnb51 := NB937_936.out
      have hnc51 := NB936_937.out
      have hnb52 := NB937_938.out
      have hnc52 := NB938_937.out
      have hcz53_0 : w50.cell? ⟨gb937, 0, none⟩ = some (.int .i64 t948) := (blk_cell BK937.out 0).trans rfl
      have hcz53_1 : w50.cell? ⟨gb937, 1, none⟩ = some (.string t949) := (blk_cell BK937.out 1).trans rfl
      have hcz53_2 : w50.cell? ⟨gb937, 2, none⟩ = some (.string t950) := (blk_cell BK937.out 2).trans rfl
      have hcz53_3 : w50.cell? ⟨gb937, 3, none⟩ = some (.slice Ao35 t951.length co35) := (blk_cell BK937.out 3).trans rfl
      have hcz53_4 : w50.cell? ⟨gb937, 4, none⟩ = some (.slice Ao37 t954.length co37) := (blk_cell BK937.out 4).trans rfl
      have hfz53_0 := blk_frozen BK937.out 0
      have hfz53_1 := blk_frozen BK937.out 1
      have hfz53_2 := blk_frozen BK937.out 2
      have hfz53_3 := blk_frozen BK937.out 3
      have hfz53_4 := blk_frozen BK937.out 4
      have hnb54 := NB936_938.out
      have hnc54 := NB938_936.out
      have hcz55_0 : w50.cell? ⟨gb936, 0, none⟩ = some (.int .i64 t939) := (blk_cell BK936.out 0).trans rfl
      have hcz55_1 : w50.cell? ⟨gb936, 1, none⟩ = some (.string t940) := (blk_cell BK936.out 1).trans rfl
      have hcz55_2 : w50.cell? ⟨gb936, 2, none⟩ = some (.string t941) := (blk_cell BK936.out 2).trans rfl
      have hcz55_3 : w50.cell? ⟨gb936, 3, none⟩ = some (.slice Ao28 t942.length co28) := (blk_cell BK936.out 3).trans rfl
      have hcz55_4 : w50.cell? ⟨gb936, 4, none⟩ = some (.slice Ao30 t945.length co30) := (blk_cell BK936.out 4).trans rfl
      have hfz55_0 := blk_frozen BK936.out 0
      have hfz55_1 := blk_frozen BK936.out 1
      have hfz55_2 := blk_frozen BK936.out 2
      have hfz55_3 := blk_frozen BK936.out 3
      have hfz55_4 := blk_frozen BK936.out 4
      try go_wp2_with (first | ((with_reducible refine gate_callee (f := 19) rfl ?_); refine goesL_ (some 27) rfl rfl Tryd.func19 kr_ rfl #[.agg #[.int .i64 t948, .string t949, .string t950, .slice Ao35 t951.length co35, .slice Ao37 t954.length co37], .agg #[.int .i64 t939, .string t940, .string t941, .slice Ao28 t942.length co28, .slice Ao30 t945.length co30]] rfl rl_ ?_; (with_reducible refine (rule_Order.calls t948 t949 t950 _ _ t951 _ _ t954 t939 t940 t941 _ _ t942 _ _ t945 t969 _ ?side1 ?side2 ?side3 ?side4 ?side5 ?side6 ?side7 ?side8 A10.out).mono ?_); (case side1 => exact C_ (Kd.R_reads' HO953.out).2.2); (case side2 => exact (Kd.R_reads' HO953.out).2.1); (case side3 => exact C_ (Kd.R_reads' HO956.out).2.2); (case side4 => exact (Kd.R_reads' HO956.out).2.1); (case side5 => exact C_ (Kd.R_reads' HO944.out).2.2); (case side6 => exact (Kd.R_reads' HO944.out).2.1); (case side7 => exact C_ (Kd.R_reads' HO947.out).2.2); (case side8 => exact (Kd.R_reads' HO947.out).2.1); rintro e w56 ⟨rfl, hb⟩; refine ⟨_, rfl, ?_⟩; have n0_ := am_ (Kd.R_below (R_ HO944.out) hb); have n1_ := am_ (Kd.R_below (R_ HO947.out) hb); have n2_ := am_ (Kd.R_below (R_ HO953.out) hb); have n3_ := am_ (Kd.R_below (R_ HO956.out) hb); have n4_ := am_ (Kd.R_below (R_ HO962.out) hb); have n5_ := am_ (Kd.R_below (R_ HO965.out) hb); have n6_ := am_ (blk_below (g := gb936) (o := .cells #[.int .i64 t939, .string t940, .string t941, .slice Ao28 t942.length co28, .slice Ao30 t945.length co30] 26 (0, 0)) (blk_ BK936.out) hb); have n7_ := am_ (blk_below (g := gb937) (o := .cells #[.int .i64 t948, .string t949, .string t950, .slice Ao35 t951.length co35, .slice Ao37 t954.length co37] 26 (0, 0)) (blk_ BK937.out) hb); have n8_ := am_ (blk_below (g := gb938) (o := .cells #[.int .i64 t957, .string t958, .string t959, .slice Ao42 t960.length co42, .slice Ao44 t963.length co44] 26 (0, 0)) (blk_ BK938.out) hb); have n9_ := am_ (below_step (bel_ HB.out) hb); clear HO944 HO947 HO953 HO956 HO962 HO965 BK936 BK937 BK938 HB; have HO944 := n0_; have HO947 := n1_; have HO953 := n2_; have HO956 := n3_; have HO962 := n4_; have HO965 := n5_; have BK936 := n6_; have BK937 := n7_; have BK938 := n8_; have HB := n9_; clear n0_ n1_ n2_ n3_ n4_ n5_ n6_ n7_ n8_ n9_; (try clear hb); (try clear hb2); (try clear hk); (try clear hi); have hcz57_0 : w56.cell? ⟨gb936, 0, none⟩ = some (.int .i64 t939) := (blk_cell BK936.out 0).trans rfl; have hcz57_1 : w56.cell? ⟨gb936, 1, none⟩ = some (.string t940) := (blk_cell BK936.out 1).trans rfl; have hcz57_2 : w56.cell? ⟨gb936, 2, none⟩ = some (.string t941) := (blk_cell BK936.out 2).trans rfl; have hcz57_3 : w56.cell? ⟨gb936, 3, none⟩ = some (.slice Ao28 t942.length co28) := (blk_cell BK936.out 3).trans rfl; have hcz57_4 : w56.cell? ⟨gb936, 4, none⟩ = some (.slice Ao30 t945.length co30) := (blk_cell BK936.out 4).trans rfl; have hfz57_0 := blk_frozen BK936.out 0; have hfz57_1 := blk_frozen BK936.out 1; have hfz57_2 := blk_frozen BK936.out 2; have hfz57_3 := blk_frozen BK936.out 3; have hfz57_4 := blk_frozen BK936.out 4) | (go_at_call 19; (with_reducible refine (rule_Order.calls t939 t940 t941 _ _ t942 _ _ t945 t939 t940 t941 _ _ t942 _ _ t945 t970 _ ?side1 ?side2 ?side3 ?side4 ?side5 ?side6 ?side7 ?side8 A12.out).mono ?_); (case side1 => exact C_ (Kd.R_reads' HO944.out).2.2); (case side2 => exact (Kd.R_reads' HO944.out).2.1); (case side3 => exact C_ (Kd.R_reads' HO947.out).2.2); (case side4 => exact (Kd.R_reads' HO947.out).2.1); (case side5 => exact C_ (Kd.R_reads' HO944.out).2.2); (case side6 => exact (Kd.R_reads' HO944.out).2.1); (case side7 => exact C_ (Kd.R_reads' HO947.out).2.2); (case side8 => exact (Kd.R_reads' HO947.out).2.1); rintro e w58 ⟨rfl, hb⟩; have n0_ := am_ (Kd.R_below (R_ HO944.out) hb); have n1_ := am_ (Kd.R_below (R_ HO947.out) hb); have n2_ := am_ (Kd.R_below (R_ HO953.out) hb); have n3_ := am_ (Kd.R_below (R_ HO956.out) hb); have n4_ := am_ (Kd.R_below (R_ HO962.out) hb); have n5_ := am_ (Kd.R_below (R_ HO965.out) hb); have n6_ := am_ (blk_below (g := gb936) (o := .cells #[.int .i64 t939, .string t940, .string t941, .slice Ao28 t942.length co28, .slice Ao30 t945.length co30] 26 (0, 0)) (blk_ BK936.out) hb); have n7_ := am_ (blk_below (g := gb937) (o := .cells #[.int .i64 t948, .string t949, .string t950, .slice Ao35 t951.length co35, .slice Ao37 t954.length co37] 26 (0, 0)) (blk_ BK937.out) hb); have n8_ := am_ (blk_below (g := gb938) (o := .cells #[.int .i64 t957, .string t958, .string t959, .slice Ao42 t960.length co42, .slice Ao44 t963.length co44] 26 (0, 0)) (blk_ BK938.out) hb); have n9_ := am_ (below_step (bel_ HB.out) hb); clear HO944 HO947 HO953 HO956 HO962 HO965 BK936 BK937 BK938 HB; have HO944 := n0_; have HO947 := n1_; have HO953 := n2_; have HO956 := n3_; have HO962 := n4_; have HO965 := n5_; have BK936 := n6_; have BK937 := n7_; have BK938 := n8_; have HB := n9_; clear n0_ n1_ n2_ n3_ n4_ n5_ n6_ n7_ n8_ n9_; (try clear hb); (try clear hb2); (try clear hk); (try clear hi)) | ((with_reducible refine gate_callee (f := 18) rfl ?_); refine goesL_ (some 73) rfl rfl Tryd.func18 kr_ rfl #[] rfl rl_ ?_; (with_reducible refine (tolllaw06_awake.calls  t991 _ A17.out).mono ?_); rintro e w59 ⟨rfl, hb⟩; refine ⟨_, rfl, ?_⟩; have n0_ := am_ (Kd.R_below (R_ HO944.out) hb); have n1_ := am_ (Kd.R_below (R_ HO947.out) hb); have n2_ := am_ (Kd.R_below (R_ HO953.out) hb); have n3_ := am_ (Kd.R_below (R_ HO956.out) hb); have n4_ := am_ (Kd.R_below (R_ HO962.out) hb); have n5_ := am_ (Kd.R_below (R_ HO965.out) hb); have n6_ := am_ (blk_below (g := gb936) (o := .cells #[.int .i64 t939, .string t940, .string t941, .slice Ao28 t942.length co28, .slice Ao30 t945.length co30] 26 (0, 0)) (blk_ BK936.out) hb); have n7_ := am_ (blk_below (g := gb937) (o := .cells #[.int .i64 t948, .string t949, .string t950, .slice Ao35 t951.length co35, .slice Ao37 t954.length co37] 26 (0, 0)) (blk_ BK937.out) hb); have n8_ := am_ (blk_below (g := gb938) (o := .cells #[.int .i64 t957, .string t958, .string t959, .slice Ao42 t960.length co42, .slice Ao44 t963.length co44] 26 (0, 0)) (blk_ BK938.out) hb); have n9_ := am_ (below_step (bel_ HB.out) hb); clear HO944 HO947 HO953 HO956 HO962 HO965 BK936 BK937 BK938 HB; have HO944 := n0_; have HO947 := n1_; have HO953 := n2_; have HO956 := n3_; have HO962 := n4_; have HO965 := n5_; have BK936 := n6_; have BK937 := n7_; have BK938 := n8_; have HB := n9_; clear n0_ n1_ n2_ n3_ n4_ n5_ n6_ n7_ n8_ n9_; (try clear hb); (try clear hb2); (try clear hk); (try clear hi)))
      go_ret
      exact ⟨fi_, bel_ HB.out⟩
  ·rw [if_neg c13] at H
   exact absurd H (by simp)
 ·rw [if_neg c11] at H
  exact absurd H (by simp)

/-- THE ONE PURE STATEMENT of tolllaw06_RuleRanks. -/
noncomputable def tolllaw06_RuleRanks.Pure : Prop := ∀ (a0_0 : Int) (a0_1 : ByteArray) (a0_2 : ByteArray) (l0_3 : List (S49)) (l0_4 : List (S49)) (a1_0 : Int) (a1_1 : ByteArray) (a1_2 : ByteArray) (l1_3 : List (S49)) (l1_4 : List (S49)) (a2_0 : Int) (a2_1 : ByteArray) (a2_2 : ByteArray) (l2_3 : List (S49)) (l2_4 : List (S49)), ((((Lit.int .i64 a0_0).wf = true) ∧ (a0_1.size ≤ 140737488351232)) ∧ (a0_2.size ≤ 140737488351232) ∧ (l0_3.length ≤ maxLen ∧ l0_3.length * 32 ≤ 140737488351232 ∧ ∀ y ∈ l0_3, (y.f0.size ≤ 140737488351232) ∧ (y.f1.size ≤ 140737488351232)) ∧ (l0_4.length ≤ maxLen ∧ l0_4.length * 32 ≤ 140737488351232 ∧ ∀ y ∈ l0_4, (y.f0.size ≤ 140737488351232) ∧ (y.f1.size ≤ 140737488351232))) → ((((Lit.int .i64 a1_0).wf = true) ∧ (a1_1.size ≤ 140737488351232)) ∧ (a1_2.size ≤ 140737488351232) ∧ (l1_3.length ≤ maxLen ∧ l1_3.length * 32 ≤ 140737488351232 ∧ ∀ y ∈ l1_3, (y.f0.size ≤ 140737488351232) ∧ (y.f1.size ≤ 140737488351232)) ∧ (l1_4.length ≤ maxLen ∧ l1_4.length * 32 ≤ 140737488351232 ∧ ∀ y ∈ l1_4, (y.f0.size ≤ 140737488351232) ∧ (y.f1.size ≤ 140737488351232))) → ((((Lit.int .i64 a2_0).wf = true) ∧ (a2_1.size ≤ 140737488351232)) ∧ (a2_2.size ≤ 140737488351232) ∧ (l2_3.length ≤ maxLen ∧ l2_3.length * 32 ≤ 140737488351232 ∧ ∀ y ∈ l2_3, (y.f0.size ≤ 140737488351232) ∧ (y.f1.size ≤ 140737488351232)) ∧ (l2_4.length ≤ maxLen ∧ l2_4.length * 32 ≤ 140737488351232 ∧ ∀ y ∈ l2_4, (y.f0.size ≤ 140737488351232) ∧ (y.f1.size ≤ 140737488351232))) → ∃ k, tolllaw06_RuleRanks_g1.f k a0_0 a0_1 a0_2 l0_3 l0_4 a1_0 a1_1 a1_2 l1_3 l1_4 a2_0 a2_1 a2_2 l2_3 l2_4 = some true ∨ tolllaw06_RuleRanks_g2.f k a0_0 a0_1 a0_2 l0_3 l0_4 a1_0 a1_1 a1_2 l1_3 l1_4 a2_0 a2_1 a2_2 l2_3 l2_4 = some true ∨ tolllaw06_RuleRanks_g3.f k a0_0 a0_1 a0_2 l0_3 l0_4 a1_0 a1_1 a1_2 l1_3 l1_4 a2_0 a2_1 a2_2 l2_3 l2_4 = some true ∨ tolllaw06_RuleRanks_g4.f k a0_0 a0_1 a0_2 l0_3 l0_4 a1_0 a1_1 a1_2 l1_3 l1_4 a2_0 a2_1 a2_2 l2_3 l2_4 = some true ∨ tolllaw06_RuleRanks_g5.f k a0_0 a0_1 a0_2 l0_3 l0_4 a1_0 a1_1 a1_2 l1_3 l1_4 a2_0 a2_1 a2_2 l2_3 l2_4 = some true

end Go.Proofs.YtompldnifiieaaaDoor.P
