-- written by wip/tool/hprint.py of this repo: the kit's print, with contracts by hand joined; Lean checks it.
import Derived.Test.YtompldnifiieaaaDoorPx0
import Derived.Test.YtompldnifiieaaaDoorPx1
import Derived.Test.YtompldnifiieaaaDoorPx4
import Derived.Test.YtompldnifiieaaaDoorPx5
import Derived.Test.YtompldnifiieaaaDoorPx6
import Derived.Test.YtompldnifiieaaaDoorPx7
namespace Go.Proofs.YtompldnifiieaaaDoor.P
open Go.RowKit Go.Proofs.YtompldnifiieaaaDoorW.PrintWords Go.Proofs.YtompldnifiieaaaDoorW.PrintLast Go.Proofs.YtompldnifiieaaaDoorW.PrintMore
attribute [local go_sem] max2_int min2_int max_two min_two max_three min_three max_four min_four   -- for this text's walks alone
set_option linter.unusedVariables false
set_option linter.unusedSimpArgs false

/-! ### tolllaw06_RuleFirst_g1: function 5 -/
mutual
noncomputable def tolllaw06_RuleFirst_g1.l0 : Nat → List (S26) → Int → Bool → Int → ByteArray → ByteArray → ByteArray → List (S49) → List (S49) → Int → ByteArray → ByteArray → List (S49) → List (S49) → Option (Bool)
 | 0, _, _, _, _, _, _, _, _, _, _, _, _, _, _ => none
 | k + 1, x0, x7, x8, x9, x253000, x253001, x253002, x253003, x253004, x254000, x254001, x254002, x254003, x254004 => if x9 < (x0.length : Int) then (if 0 ≤ x9 then ((rule_Holds.f k ((rd_T26 x0 x9).f0.f0) ((rd_T26 x0 x9).f0.f1) ((rd_T26 x0 x9).f1) ((rd_T26 x0 x9).f2) ((rd_T26 x0 x9).f3) x253000 x253001 x253002 x253003 x253004).bind fun t278 => (if t278 = true then (if x8 = true then (if x7 < 0 then (none) else (if x7 ≥ (x0.length : Int) then (none) else (if 0 ≤ x7 then (if x7 < (x0.length : Int) then ((rule_Order.f ((rd_T26 x0 x9).f0.f0) ((rd_T26 x0 x9).f0.f1) ((rd_T26 x0 x9).f1) ((rd_T26 x0 x9).f2) ((rd_T26 x0 x9).f3) ((rd_T26 x0 x7).f0.f0) ((rd_T26 x0 x7).f0.f1) ((rd_T26 x0 x7).f1) ((rd_T26 x0 x7).f2) ((rd_T26 x0 x7).f3)).bind fun t281 => (if t281 < 0 then (none) else (tolllaw06_RuleFirst_g1.l0 k x0 x7 x8 (wrap64 (x9 + 1)) x253000 x253001 x253002 x253003 x253004 x254000 x254001 x254002 x254003 x254004))) else (none)) else (none)))) else (none)) else (tolllaw06_RuleFirst_g1.l0 k x0 x7 x8 (wrap64 (x9 + 1)) x253000 x253001 x253002 x253003 x253004 x254000 x254001 x254002 x254003 x254004))) else (none)) else (if x8 = true then (if x7 < 0 then (none) else (if x7 ≥ (x0.length : Int) then (none) else (if 0 ≤ x7 then (if x7 < (x0.length : Int) then ((rule_Holds.f k ((rd_T26 x0 x7).f0.f0) ((rd_T26 x0 x7).f0.f1) ((rd_T26 x0 x7).f1) ((rd_T26 x0 x7).f2) ((rd_T26 x0 x7).f3) x253000 x253001 x253002 x253003 x253004).bind fun t284 => (tolllaw06_RuleFirst_g1.j1 k x0 x7 (!t284) x253000 x253001 x253002 x253003 x253004 x254000 x254001 x254002 x254003 x254004)) else (none)) else (none)))) else (if x7 = 0 then ((tolllaw06_awake.f).bind fun t282 => (some t282)) else (none)))
noncomputable def tolllaw06_RuleFirst_g1.j1 : Nat → List (S26) → Int → Bool → ByteArray → ByteArray → ByteArray → List (S49) → List (S49) → Int → ByteArray → ByteArray → List (S49) → List (S49) → Option (Bool)
 | 0, _, _, _, _, _, _, _, _, _, _, _, _, _ => none
 | k + 1, x0, x7, x86, x253000, x253001, x253002, x253003, x253004, x254000, x254001, x254002, x254003, x254004 => if x86 = true then (none) else ((some (([] : List (S26)) : List (S26))).bind fun y285 => (if y285.length + x0.length < 1599289640401 then ((some (y285 ++ x0 : List (S26))).bind fun y288 => ((some (([(⟨(⟨x254000, x254001⟩ : S23), x254002, x254003, x254004⟩ : S26)] : List (S26)) : List (S26))).bind fun y291 => (if y288.length + y291.length < 1599289640401 then ((rule_First.f k (y288 ++ y291) x253000 x253001 x253002 x253003 x253004).bind fun bt297 => ((rule_Holds.f k x254000 x254001 x254002 x254003 x254004 x253000 x253001 x253002 x253003 x253004).bind fun t299 => (if t299 = true then (none) else (if bt297.2 = true then (if ((bt297.1 == (x0.length : Int)) == false) = true then (if bt297.1 = x7 then ((tolllaw06_awake.f).bind fun t304 => (some t304)) else (none)) else (none)) else (none))))) else (none)))) else (none)))
end
noncomputable def tolllaw06_RuleFirst_g1.f (k : Nat) (l0 : List (S26)) (a1_0 : ByteArray) (a1_1 : ByteArray) (a1_2 : ByteArray) (l1_3 : List (S49)) (l1_4 : List (S49)) (a2_0 : Int) (a2_1 : ByteArray) (a2_2 : ByteArray) (l2_3 : List (S49)) (l2_4 : List (S49)) : Option (Bool) := (tolllaw06_some.f k l0).bind fun t254 => ((tolllaw06_Asked.f k a1_0 a1_1 a1_2 l1_3 l1_4).bind fun bt257 => ((tolllaw06_Few.f k a2_0 a2_1 a2_2 l2_3 l2_4).bind fun bt266 => ((rule_First.f k t254 bt257.1 bt257.2.1 bt257.2.2.1 bt257.2.2.2.1 bt257.2.2.2.2).bind fun bt275 => (tolllaw06_RuleFirst_g1.l0 k t254 bt275.1 bt275.2 0 bt257.1 bt257.2.1 bt257.2.2.1 bt257.2.2.2.1 bt257.2.2.2.2 bt266.1 bt266.2.1 bt266.2.2.1 bt266.2.2.2.1 bt266.2.2.2.2))))
theorem tolllaw06_RuleFirst_g1.mono_l : ∀ k, (∀ y0 y1 y2 y3 y4 y5 y6 y7 y8 y9 y10 y11 y12 y13, LeO (tolllaw06_RuleFirst_g1.l0 k y0 y1 y2 y3 y4 y5 y6 y7 y8 y9 y10 y11 y12 y13) (tolllaw06_RuleFirst_g1.l0 (k + 1) y0 y1 y2 y3 y4 y5 y6 y7 y8 y9 y10 y11 y12 y13)) ∧ (∀ y0 y1 y2 y3 y4 y5 y6 y7 y8 y9 y10 y11 y12, LeO (tolllaw06_RuleFirst_g1.j1 k y0 y1 y2 y3 y4 y5 y6 y7 y8 y9 y10 y11 y12) (tolllaw06_RuleFirst_g1.j1 (k + 1) y0 y1 y2 y3 y4 y5 y6 y7 y8 y9 y10 y11 y12))
 | 0 => ⟨fun _ _ _ _ _ _ _ _ _ _ _ _ _ _ r h => by simp [tolllaw06_RuleFirst_g1.l0] at h, fun _ _ _ _ _ _ _ _ _ _ _ _ _ r h => by simp [tolllaw06_RuleFirst_g1.j1] at h⟩
 | k + 1 => by
  obtain ⟨ih0, ih1⟩ := tolllaw06_RuleFirst_g1.mono_l k
  refine ⟨?_, ?_⟩
  ·intro y0 y1 y2 y3 y4 y5 y6 y7 y8 y9 y10 y11 y12 y13
   unfold tolllaw06_RuleFirst_g1.l0
   repeat' first
   | (with_reducible exact ih0 _ _ _ _ _ _ _ _ _ _ _ _ _ _)
   | (with_reducible exact ih1 _ _ _ _ _ _ _ _ _ _ _ _ _)
   | (with_reducible exact rule_First.mono _ _ _ _ _ _ _)
   | (with_reducible exact rule_Holds.mono _ _ _ _ _ _ _ _ _ _ _)
   | (with_reducible exact tolllaw06_Asked.mono _ _ _ _ _ _)
   | (with_reducible exact tolllaw06_Few.mono _ _ _ _ _ _)
   | (with_reducible exact tolllaw06_some.mono _ _)
   | (with_reducible exact LeO.refl _)
   | (with_reducible exact LeO.none _)
   | (with_reducible refine LeO.ite ?_ ?_)
   | (with_reducible refine LeO.bind ?_ (fun _ => ?_))
   | exact ih0 _ _ _ _ _ _ _ _ _ _ _ _ _ _
   | exact ih1 _ _ _ _ _ _ _ _ _ _ _ _ _
   | exact rule_First.mono _ _ _ _ _ _ _
   | exact rule_Holds.mono _ _ _ _ _ _ _ _ _ _ _
   | exact tolllaw06_Asked.mono _ _ _ _ _ _
   | exact tolllaw06_Few.mono _ _ _ _ _ _
   | exact tolllaw06_some.mono _ _
   | exact LeO.none _
   | refine LeO.ite ?_ ?_
   | refine LeO.bind ?_ (fun _ => ?_)
  ·intro y0 y1 y2 y3 y4 y5 y6 y7 y8 y9 y10 y11 y12
   unfold tolllaw06_RuleFirst_g1.j1
   repeat' first
   | (with_reducible exact ih0 _ _ _ _ _ _ _ _ _ _ _ _ _ _)
   | (with_reducible exact ih1 _ _ _ _ _ _ _ _ _ _ _ _ _)
   | (with_reducible exact rule_First.mono _ _ _ _ _ _ _)
   | (with_reducible exact rule_Holds.mono _ _ _ _ _ _ _ _ _ _ _)
   | (with_reducible exact tolllaw06_Asked.mono _ _ _ _ _ _)
   | (with_reducible exact tolllaw06_Few.mono _ _ _ _ _ _)
   | (with_reducible exact tolllaw06_some.mono _ _)
   | (with_reducible exact LeO.refl _)
   | (with_reducible exact LeO.none _)
   | (with_reducible refine LeO.ite ?_ ?_)
   | (with_reducible refine LeO.bind ?_ (fun _ => ?_))
   | exact ih0 _ _ _ _ _ _ _ _ _ _ _ _ _ _
   | exact ih1 _ _ _ _ _ _ _ _ _ _ _ _ _
   | exact rule_First.mono _ _ _ _ _ _ _
   | exact rule_Holds.mono _ _ _ _ _ _ _ _ _ _ _
   | exact tolllaw06_Asked.mono _ _ _ _ _ _
   | exact tolllaw06_Few.mono _ _ _ _ _ _
   | exact tolllaw06_some.mono _ _
   | exact LeO.none _
   | refine LeO.ite ?_ ?_
   | refine LeO.bind ?_ (fun _ => ?_)
theorem tolllaw06_RuleFirst_g1.mono : ∀ a0 a1 a2 a3 a4 a5 a6 a7 a8 a9 a10 k, LeO (tolllaw06_RuleFirst_g1.f k a0 a1 a2 a3 a4 a5 a6 a7 a8 a9 a10) (tolllaw06_RuleFirst_g1.f (k + 1) a0 a1 a2 a3 a4 a5 a6 a7 a8 a9 a10) := by
 intro a0 a1 a2 a3 a4 a5 a6 a7 a8 a9 a10 k
 obtain ⟨ih0, ih1⟩ := tolllaw06_RuleFirst_g1.mono_l k
 unfold tolllaw06_RuleFirst_g1.f
 repeat' first
   | (with_reducible exact ih0 _ _ _ _ _ _ _ _ _ _ _ _ _ _)
   | (with_reducible exact ih1 _ _ _ _ _ _ _ _ _ _ _ _ _)
   | (with_reducible exact rule_First.mono _ _ _ _ _ _ _)
   | (with_reducible exact rule_Holds.mono _ _ _ _ _ _ _ _ _ _ _)
   | (with_reducible exact tolllaw06_Asked.mono _ _ _ _ _ _)
   | (with_reducible exact tolllaw06_Few.mono _ _ _ _ _ _)
   | (with_reducible exact tolllaw06_some.mono _ _)
   | (with_reducible exact LeO.refl _)
   | (with_reducible exact LeO.none _)
   | (with_reducible refine LeO.ite ?_ ?_)
   | (with_reducible refine LeO.bind ?_ (fun _ => ?_))
   | exact ih0 _ _ _ _ _ _ _ _ _ _ _ _ _ _
   | exact ih1 _ _ _ _ _ _ _ _ _ _ _ _ _
   | exact rule_First.mono _ _ _ _ _ _ _
   | exact rule_Holds.mono _ _ _ _ _ _ _ _ _ _ _
   | exact tolllaw06_Asked.mono _ _ _ _ _ _
   | exact tolllaw06_Few.mono _ _ _ _ _ _
   | exact tolllaw06_some.mono _ _
   | exact LeO.none _
   | refine LeO.ite ?_ ?_
   | refine LeO.bind ?_ (fun _ => ?_)
noncomputable def tolllaw06_RuleFirst_g1.T1 : Bool × List (List Nat × List Nat) := (true, [([], []), ([0], [0]), ([], []), ([2, 1], [2]), ([], []), ([4, 3], [4]), ([1, 5, 0, 1], [0, 1]), ([3, 6, 0, 1, 2, 3, 6], [3]), ([5, 7, 0, 1, 2, 3, 4, 5, 6, 7], [5])])
noncomputable def tolllaw06_RuleFirst_g1.B1 : List Nat := [0, 1, 0, 7, 0, 31, 63, 127, 255]
theorem tolllaw06_RuleFirst_g1.tab1 : rtab .any (opsOf Tryd.f5 1) = tolllaw06_RuleFirst_g1.T1 := by kernel_rfl
theorem tolllaw06_RuleFirst_g1.bits1 : waitsOk tolllaw06_RuleFirst_g1.T1.2 tolllaw06_RuleFirst_g1.B1 = true := by kernel_rfl
noncomputable def tolllaw06_RuleFirst_g1.T6 : Bool × List (List Nat × List Nat) := (true, [([], []), ([], []), ([0, 1], [0, 1]), ([2], [2]), ([], []), ([3, 4], [3, 4]), ([5, 5], [5]), ([6], [6]), ([7, 6], [6, 7]), ([8, 6, 6], [6, 8]), ([9], [9]), ([10, 9], [9, 10]), ([9, 11, 6], [6, 9, 11]), ([12, 9, 6], [6, 12]), ([13], [13]), ([13], [13]), ([15, 13], [13, 15]), ([14, 16, 13], [13, 14, 16]), ([13, 17, 6], [6, 13, 17]), ([18, 13, 6], [6, 18]), ([19], [19]), ([19], [19]), ([20, 21, 19], [19, 20, 21]), ([22, 19], [19, 22]), ([19], [19]), ([19], [19]), ([24, 25, 19], [19, 24, 25]), ([26, 19], [19, 26]), ([23, 27, 19, 19], [19, 23, 27]), ([28, 19], [19, 28]), ([19, 29, 6], [6, 19, 29]), ([6, 30], [6, 30])])
noncomputable def tolllaw06_RuleFirst_g1.B6 : List Nat := [0, 0, 3, 7, 0, 31, 63, 127, 255, 511, 1023, 2047, 4095, 8191, 16383, 16383, 49151, 131071, 262143, 524287, 1048575, 1048575, 4194303, 8388607, 1048575, 1048575, 51380223, 118489087, 268435455, 536870911, 1073741823, 2147483647]
theorem tolllaw06_RuleFirst_g1.tab6 : rtab .any (opsOf Tryd.f5 6) = tolllaw06_RuleFirst_g1.T6 := by kernel_rfl
theorem tolllaw06_RuleFirst_g1.bits6 : waitsOk tolllaw06_RuleFirst_g1.T6.2 tolllaw06_RuleFirst_g1.B6 = true := by kernel_rfl
noncomputable def tolllaw06_RuleFirst_g1.T10 : Bool × List (List Nat × List Nat) := (true, [([], []), ([0], [0]), ([1], [1]), ([2], [2]), ([2], [2]), ([4, 2], [2, 4]), ([3, 5, 2], [2, 3, 5]), ([2, 6], [2, 6]), ([7, 2], [7]), ([8], [8]), ([8], [8]), ([9, 10, 8], [8, 9, 10]), ([11, 8], [8, 11]), ([8], [8]), ([12, 13, 8, 8], [8, 12, 13]), ([14, 8], [8, 14]), ([8, 15], [8, 15])])
noncomputable def tolllaw06_RuleFirst_g1.B10 : List Nat := [0, 1, 3, 7, 7, 23, 63, 127, 255, 511, 511, 2047, 4095, 511, 16383, 32767, 65535]
theorem tolllaw06_RuleFirst_g1.tab10 : rtab .any (opsOf Tryd.f5 10) = tolllaw06_RuleFirst_g1.T10 := by kernel_rfl
theorem tolllaw06_RuleFirst_g1.bits10 : waitsOk tolllaw06_RuleFirst_g1.T10.2 tolllaw06_RuleFirst_g1.B10 = true := by kernel_rfl
noncomputable def tolllaw06_RuleFirst_g1.T12 : Bool × List (List Nat × List Nat) := (true, [([], []), ([], []), ([0, 1], [0, 1]), ([], []), ([3], [3]), ([2, 4, 2], [2, 4]), ([], []), ([5, 6, 5], [5, 6]), ([7], [7]), ([8], [8]), ([8], [8]), ([9, 7, 0, 1, 2, 3, 4, 5, 6, 7, 8, 9], [9]), ([10, 11, 0, 1, 2, 3, 4, 5, 6, 7, 8, 9, 10, 11], [10])])
noncomputable def tolllaw06_RuleFirst_g1.B12 : List Nat := [0, 0, 3, 0, 8, 31, 0, 127, 255, 511, 511, 1023, 4095]
theorem tolllaw06_RuleFirst_g1.tab12 : rtab .any (opsOf Tryd.f5 12) = tolllaw06_RuleFirst_g1.T12 := by kernel_rfl
theorem tolllaw06_RuleFirst_g1.bits12 : waitsOk tolllaw06_RuleFirst_g1.T12.2 tolllaw06_RuleFirst_g1.B12 = true := by kernel_rfl
noncomputable def tolllaw06_RuleFirst_g1.T13 : Bool × List (List Nat × List Nat) := (true, [([], []), ([], []), ([0, 1], [0, 1]), ([2, 2], [2]), ([3], [3]), ([3], [3]), ([3], [3]), ([5, 6, 3], [3, 5, 6]), ([7, 3], [3, 7]), ([4, 8, 3, 3], [3, 4, 8]), ([9, 3], [3, 9]), ([3, 10], [3, 10]), ([11, 9, 0, 1, 2, 3, 4, 5, 6, 7, 8, 9, 10, 11], [11])])
noncomputable def tolllaw06_RuleFirst_g1.B13 : List Nat := [0, 0, 3, 7, 15, 15, 15, 111, 239, 511, 1023, 2047, 4095]
theorem tolllaw06_RuleFirst_g1.tab13 : rtab .any (opsOf Tryd.f5 13) = tolllaw06_RuleFirst_g1.T13 := by kernel_rfl
theorem tolllaw06_RuleFirst_g1.bits13 : waitsOk tolllaw06_RuleFirst_g1.T13.2 tolllaw06_RuleFirst_g1.B13 = true := by kernel_rfl
set_option maxHeartbeats 8000000 in
set_option maxRecDepth 100000 in
theorem tolllaw06_RuleFirst_g1.calls (k : Nat) (A0 : Option Addr) (c0 : Nat) (l0 : List (S26)) (a1_0 : ByteArray) (a1_1 : ByteArray) (a1_2 : ByteArray) (A1_3 : Option Addr) (c1_3 : Nat) (l1_3 : List (S49)) (A1_4 : Option Addr) (c1_4 : Nat) (l1_4 : List (S49)) (a2_0 : Int) (a2_1 : ByteArray) (a2_2 : ByteArray) (A2_3 : Option Addr) (c2_3 : Nat) (l2_3 : List (S49)) (A2_4 : Option Addr) (c2_4 : Nat) (l2_4 : List (S49)) (r : Bool) (w : World) (hr0 : Kd.C k26 w A0 l0.length l0) (hc0 : l0.length ≤ c0) (hr1_3 : Kd.C k49 w A1_3 l1_3.length l1_3) (hc1_3 : l1_3.length ≤ c1_3) (hr1_4 : Kd.C k49 w A1_4 l1_4.length l1_4) (hc1_4 : l1_4.length ≤ c1_4) (hr2_3 : Kd.C k49 w A2_3 l2_3.length l2_3) (hc2_3 : l2_3.length ≤ c2_3) (hr2_4 : Kd.C k49 w A2_4 l2_4.length l2_4) (hc2_4 : l2_4.length ≤ c2_4) (h : tolllaw06_RuleFirst_g1.f k l0 a1_0 a1_1 a1_2 l1_3 l1_4 a2_0 a2_1 a2_2 l2_3 l2_4 = some r) :
  Calls Tryd.prog 5 #[.slice A0 l0.length c0, .agg #[.string a1_0, .string a1_1, .string a1_2, .slice A1_3 l1_3.length c1_3, .slice A1_4 l1_4.length c1_4], .agg #[.int .i64 a2_0, .string a2_1, .string a2_2, .slice A2_3 l2_3.length c2_3, .slice A2_4 l2_4.length c2_4]] w fun e w' => e = .returned (.bool r) ∧ Below w.heap.size w w' := by
 have hu28 := Tryd.underlying28
 have hu26 := Tryd.underlying26
 have HR0 := Aside0.mk hr0
 have HC0 := Aside0.mk hc0
 clear hr0 hc0
 have HR1_3 := Aside0.mk hr1_3
 have HC1_3 := Aside0.mk hc1_3
 clear hr1_3 hc1_3
 have HR1_4 := Aside0.mk hr1_4
 have HC1_4 := Aside0.mk hc1_4
 clear hr1_4 hc1_4
 have HR2_3 := Aside0.mk hr2_3
 have HC2_3 := Aside0.mk hc2_3
 clear hr2_3 hc2_3
 have HR2_4 := Aside0.mk hr2_4
 have HC2_4 := Aside0.mk hc2_4
 clear hr2_4 hc2_4
 have HB := am_ (Below.refl w.heap.size w)
 have H : ((tolllaw06_some.f k l0).bind fun t254 => ((tolllaw06_Asked.f k a1_0 a1_1 a1_2 l1_3 l1_4).bind fun bt257 => ((tolllaw06_Few.f k a2_0 a2_1 a2_2 l2_3 l2_4).bind fun bt266 => ((rule_First.f k t254 bt257.1 bt257.2.1 bt257.2.2.1 bt257.2.2.2.1 bt257.2.2.2.2).bind fun bt275 => (tolllaw06_RuleFirst_g1.l0 k t254 bt275.1 bt275.2 0 bt257.1 bt257.2.1 bt257.2.2.1 bt257.2.2.2.1 bt257.2.2.2.2 bt266.1 bt266.2.1 bt266.2.2.1 bt266.2.2.2.1 bt266.2.2.2.2))))) = some r := h
 clear h
 replace H := Option.bind_eq_some_iff.mp H
 obtain ⟨t254, A40, H⟩ := H
 replace H : ((tolllaw06_Asked.f k a1_0 a1_1 a1_2 l1_3 l1_4).bind fun bt257 => ((tolllaw06_Few.f k a2_0 a2_1 a2_2 l2_3 l2_4).bind fun bt266 => ((rule_First.f k t254 bt257.1 bt257.2.1 bt257.2.2.1 bt257.2.2.2.1 bt257.2.2.2.2).bind fun bt275 => (tolllaw06_RuleFirst_g1.l0 k t254 bt275.1 bt275.2 0 bt257.1 bt257.2.1 bt257.2.2.1 bt257.2.2.2.1 bt257.2.2.2.2 bt266.1 bt266.2.1 bt266.2.2.1 bt266.2.2.2.1 bt266.2.2.2.2)))) = some r := H
 have A4 := Aside0.mk A40
 clear A40
 replace H := Option.bind_eq_some_iff.mp H
 obtain ⟨⟨t257, t258, t259, t260, t263⟩, A50, H⟩ := H
 replace H : ((tolllaw06_Few.f k a2_0 a2_1 a2_2 l2_3 l2_4).bind fun bt266 => ((rule_First.f k t254 t257 t258 t259 t260 t263).bind fun bt275 => (tolllaw06_RuleFirst_g1.l0 k t254 bt275.1 bt275.2 0 t257 t258 t259 t260 t263 bt266.1 bt266.2.1 bt266.2.2.1 bt266.2.2.2.1 bt266.2.2.2.2))) = some r := H
 have A5 := Aside0.mk A50
 clear A50
 replace H := Option.bind_eq_some_iff.mp H
 obtain ⟨⟨t266, t267, t268, t269, t272⟩, A60, H⟩ := H
 replace H : ((rule_First.f k t254 t257 t258 t259 t260 t263).bind fun bt275 => (tolllaw06_RuleFirst_g1.l0 k t254 bt275.1 bt275.2 0 t257 t258 t259 t260 t263 t266 t267 t268 t269 t272)) = some r := H
 have A6 := Aside0.mk A60
 clear A60
 replace H := Option.bind_eq_some_iff.mp H
 obtain ⟨⟨t275, t276⟩, A70, H⟩ := H
 replace H : (tolllaw06_RuleFirst_g1.l0 k t254 t275 t276 0 t257 t258 t259 t260 t263 t266 t267 t268 t269 t272) = some r := H
 have A7 := Aside0.mk A70
 clear A70
 have H' := Aside0.mk H
 clear H
 go_enter Tryd.func5, Tryd.ntmps5
 try go_wp2_with (first | ((with_reducible refine gate_dst (N := 4) rfl ?_); (try (refine gate_guard (by rfl) ?_; dsimp only)); refine box_event ?hg (N := 4) ?hd (cs := #[.string a1_0, .string a1_1, .string a1_2, .slice A1_3 l1_3.length c1_3, .slice A1_4 l1_4.length c1_4]) (t := 28) ?hr ?_; (case hd => rfl); (case hg => rfl); (case hr => first | (go_simp; done) | (go_simp; rfl)); intro gb252 hg w8 hbox hb; have n0_ := am_ (below_step (bel_ HB.out) hb); have n1_ := am_ (hbox); have n2_ := am_ ((by rw [hg]; exact (below_size (bel_ HB.out)) : w.heap.size ≤ gb252)); have n3_ := am_ ((by rw [hg]; exact (below_size (bel_ HB.out)) : w.heap.size ≤ gb252)); clear HB; have HB := n0_; have BK252 := n1_; have GW252 := n2_; have GE252 := n3_; clear n0_ n1_ n2_ n3_ hb hbox hg) | ((with_reducible refine gate_dst (N := 5) rfl ?_); (try (refine gate_guard (by rfl) ?_; dsimp only)); refine box_event ?hg (N := 5) ?hd (cs := #[.int .i64 a2_0, .string a2_1, .string a2_2, .slice A2_3 l2_3.length c2_3, .slice A2_4 l2_4.length c2_4]) (t := 26) ?hr ?_; (case hd => rfl); (case hg => rfl); (case hr => first | (go_simp; done) | (go_simp; rfl)); intro gb253 hg w9 hbox hb; have n0_ := am_ (blk_below (g := gb252) (o := .cells #[.string a1_0, .string a1_1, .string a1_2, .slice A1_3 l1_3.length c1_3, .slice A1_4 l1_4.length c1_4] 28 (0, 0)) (blk_ BK252.out) hb); have n1_ := am_ (below_step (bel_ HB.out) hb); have n2_ := am_ (hbox); have n3_ := am_ ((by rw [hg]; exact (below_size (bel_ HB.out)) : w.heap.size ≤ gb253)); have n4_ := am_ ((by rw [hg]; exact (below_size (bel_ HB.out)) : w.heap.size ≤ gb253)); have n5_ := am_ ((by rw [hg]; exact Nat.ne_of_lt (blk_lt (g := gb252) (o := .cells #[.string a1_0, .string a1_1, .string a1_2, .slice A1_3 l1_3.length c1_3, .slice A1_4 l1_4.length c1_4] 28 (0, 0)) (blk_ BK252.out)) : gb252 ≠ gb253)); have n6_ := am_ ((by rw [hg]; exact Nat.ne_of_gt (blk_lt (g := gb252) (o := .cells #[.string a1_0, .string a1_1, .string a1_2, .slice A1_3 l1_3.length c1_3, .slice A1_4 l1_4.length c1_4] 28 (0, 0)) (blk_ BK252.out)) : gb253 ≠ gb252)); clear BK252 HB; have BK252 := n0_; have HB := n1_; have BK253 := n2_; have GW253 := n3_; have GE253 := n4_; have NB252_253 := n5_; have NB253_252 := n6_; clear n0_ n1_ n2_ n3_ n4_ n5_ n6_ hb hbox hg))
 have n0_ := am_ (blk_drew BK252.out)
 have n1_ := am_ (blk_drew BK253.out)
 have n2_ := am_ (below_drew1 HB.out)
 clear BK252 BK253 HB
 have BK252 := n0_
 have BK253 := n1_
 have HB := n2_
 clear n0_ n1_ n2_
 refine start_ (n := 9) (S := fun w' => w'.cell? ⟨gb252, 0, none⟩ = some (.string a1_0) ∧ w'.cell? ⟨gb252, 1, none⟩ = some (.string a1_1) ∧ w'.cell? ⟨gb252, 2, none⟩ = some (.string a1_2) ∧ w'.cell? ⟨gb252, 3, none⟩ = some (.slice A1_3 l1_3.length c1_3) ∧ w'.cell? ⟨gb252, 4, none⟩ = some (.slice A1_4 l1_4.length c1_4) ∧ w'.cell? ⟨gb253, 0, none⟩ = some (.int .i64 a2_0) ∧ w'.cell? ⟨gb253, 1, none⟩ = some (.string a2_1) ∧ w'.cell? ⟨gb253, 2, none⟩ = some (.string a2_2) ∧ w'.cell? ⟨gb253, 3, none⟩ = some (.slice A2_3 l2_3.length c2_3) ∧ w'.cell? ⟨gb253, 4, none⟩ = some (.slice A2_4 l2_4.length c2_4)) (ds := [7, 8]) #[false, false, false, false, false, false, false, false, false] kr_ rfl rfl ⟨(blk_cell BK252.out 0).trans rfl, (blk_cell BK252.out 1).trans rfl, (blk_cell BK252.out 2).trans rfl, (blk_cell BK252.out 3).trans rfl, (blk_cell BK252.out 4).trans rfl, (blk_cell BK253.out 0).trans rfl, (blk_cell BK253.out 1).trans rfl, (blk_cell BK253.out 2).trans rfl, (blk_cell BK253.out 3).trans rfl, (blk_cell BK253.out 4).trans rfl⟩ (fun hHeld => ?_); refine with_tabW tolllaw06_RuleFirst_g1.tab1 tolllaw06_RuleFirst_g1.bits1 (fun HT_ HW_ => ?_)
 generalize w9.drew = w10 at BK252 BK253 HB hHeld ⊢
 refine pure_ (i := 0) (N := some 13) (v := ?_) (a' := ?_) #[true, false, false, false, false, false, false, false, false] rfl rfl (any_of HT_.out kr_) (fun _ _ _ h => h) (Or.inl ⟨by rfl, ?_⟩) ?_ ?_
 rotate_left
 ·intro w'
  go_simp
  with_reducible rfl
 rotate_left
 ·simp only [Act.put, sx_, s0_, s1_, i64_w, i32_w]
  rfl
 refine take_ (i := 2) (N := some 15) (v := ?_) (a' := ?_) #[true, false, true, false, false, false, false, false, false] rfl rfl (take_ofW HT_.out HW_.out kr_) (fun _ _ _ h => h) (Or.inl ⟨by rfl, ?_⟩) hHeld ?_ ?_
 rotate_left
 ·rintro w' ⟨s0, s1, s2, s3, s4, s5, s6, s7, s8, s9⟩
  go_simp
  with_reducible rfl
 rotate_left
 ·simp only [Act.put, sx_, s0_, s1_, i64_w, i32_w]
  rfl
 refine take_ (i := 4) (N := some 17) (v := ?_) (a' := ?_) #[true, false, true, false, true, false, false, false, false] rfl rfl (take_ofW HT_.out HW_.out kr_) (fun _ _ _ h => h) (Or.inl ⟨by rfl, ?_⟩) hHeld ?_ ?_
 rotate_left
 ·rintro w' ⟨s0, s1, s2, s3, s4, s5, s6, s7, s8, s9⟩
  go_simp
  with_reducible rfl
 rotate_left
 ·simp only [Act.put, sx_, s0_, s1_, i64_w, i32_w]
  rfl
 refine one_ (i := 1) (N := some 14) #[true, true, true, false, true, false, false, false, false] rfl rfl (one_of HT_.out kr_) (by decide) (fun K hK => ?_)
 refine goes_ Tryd.func20 kr_ rfl #[.slice A0 l0.length c0] (by rfl) rfl rfl rl_ ?_
 with_reducible refine (tolllaw06_some.calls k _ _ l0 t254 _ ?side1 ?side2 A4.out).mono ?_
 (case side1 => exact C_ (Kd.C_below HR0.out HB.out))
 (case side2 => exact HC0.out)
 rintro e w11 ⟨v255, rfl, ho0, hb⟩
 refine ⟨_, rfl, ?_⟩
 have n0_ := am_ (Kd.N_lower (Kd.N_mono (ok' := fun k_ => k_ ≠ gb252 ∧ k_ ≠ gb253) (Kd.S_N (Kd.S_bound ho0)) (fun k_ hk_ => ⟨(Kd.freshB (g := gb252) (o := .cells #[.string a1_0, .string a1_1, .string a1_2, .slice A1_3 l1_3.length c1_3, .slice A1_4 l1_4.length c1_4] 28 (0, 0)) (blk_ BK252.out) k_ hk_.2.1), (Kd.freshB (g := gb253) (o := .cells #[.int .i64 a2_0, .string a2_1, .string a2_2, .slice A2_3 l2_3.length c2_3, .slice A2_4 l2_4.length c2_4] 26 (0, 0)) (blk_ BK253.out) k_ hk_.2.1)⟩)) (below_size (bel_ HB.out)))
 have n1_ := am_ (blk_below (g := gb252) (o := .cells #[.string a1_0, .string a1_1, .string a1_2, .slice A1_3 l1_3.length c1_3, .slice A1_4 l1_4.length c1_4] 28 (0, 0)) (blk_ BK252.out) hb)
 have n2_ := am_ (blk_below (g := gb253) (o := .cells #[.int .i64 a2_0, .string a2_1, .string a2_2, .slice A2_3 l2_3.length c2_3, .slice A2_4 l2_4.length c2_4] 26 (0, 0)) (blk_ BK253.out) hb)
 have n3_ := am_ (below_step (bel_ HB.out) hb)
 clear BK252 BK253 HB
 have HO256 := n0_
 have BK252 := n1_
 have BK253 := n2_
 have HB := n3_
 clear n0_ n1_ n2_ n3_
 (try clear hb)
 (try clear hb2)
 (try clear hk)
 (try clear hi)
 (try clear ho0)
 refine hK.out _ _ ⟨(blk_cell BK252.out 0).trans rfl, (blk_cell BK252.out 1).trans rfl, (blk_cell BK252.out 2).trans rfl, (blk_cell BK252.out 3).trans rfl, (blk_cell BK252.out 4).trans rfl, (blk_cell BK253.out 0).trans rfl, (blk_cell BK253.out 1).trans rfl, (blk_cell BK253.out 2).trans rfl, (blk_cell BK253.out 3).trans rfl, (blk_cell BK253.out 4).trans rfl⟩ (fun hHeld => ?_)
 clear hK K
 refine norm_ (a' := ?_) ?_ ?_
 rotate_left
 ·show Act.put _ (some 14) _ = _
  simp only [Act.put, sx_, s0_, s1_, i64_w, i32_w]
  rfl
 refine one_ (i := 3) (N := some 16) #[true, true, true, true, true, false, false, false, false] rfl rfl (one_of HT_.out kr_) (by decide) (fun K hK => ?_)
 refine goes_ Tryd.func10 kr_ rfl #[.agg #[.string a1_0, .string a1_1, .string a1_2, .slice A1_3 l1_3.length c1_3, .slice A1_4 l1_4.length c1_4]] (by rfl) rfl rfl rl_ ?_
 with_reducible refine (tolllaw06_Asked.calls k a1_0 a1_1 a1_2 _ _ l1_3 _ _ l1_4 t257 t258 t259 t260 t263 _ ?side1 ?side2 ?side3 ?side4 A5.out).mono ?_
 (case side1 => exact C_ (Kd.C_below HR1_3.out HB.out))
 (case side2 => exact HC1_3.out)
 (case side3 => exact C_ (Kd.C_below HR1_4.out HB.out))
 (case side4 => exact HC1_4.out)
 rintro e w12 ⟨v261, v264, rfl, ho0, ho1, hb⟩
 refine ⟨_, rfl, ?_⟩
 have n0_ := am_ (Kd.N_mono (Kd.N_told (Kd.N_told (Kd.N_old (N_ HO256.out) hb) (Kd.R_base ho0)) (Kd.R_base ho1)) (fun _ h_ => h_.1))
 have n1_ := am_ (Kd.R_lower ho0 (below_size (bel_ HB.out)))
 have n2_ := am_ (Kd.R_lower ho1 (below_size (bel_ HB.out)))
 have n3_ := am_ (blk_below (g := gb252) (o := .cells #[.string a1_0, .string a1_1, .string a1_2, .slice A1_3 l1_3.length c1_3, .slice A1_4 l1_4.length c1_4] 28 (0, 0)) (blk_ BK252.out) hb)
 have n4_ := am_ (blk_below (g := gb253) (o := .cells #[.int .i64 a2_0, .string a2_1, .string a2_2, .slice A2_3 l2_3.length c2_3, .slice A2_4 l2_4.length c2_4] 26 (0, 0)) (blk_ BK253.out) hb)
 have n5_ := am_ (below_step (bel_ HB.out) hb)
 clear HO256 BK252 BK253 HB
 have HO256 := n0_
 have HO262 := n1_
 have HO265 := n2_
 have BK252 := n3_
 have BK253 := n4_
 have HB := n5_
 clear n0_ n1_ n2_ n3_ n4_ n5_
 (try clear hb)
 (try clear hb2)
 (try clear hk)
 (try clear hi)
 (try clear ho0)
 (try clear ho1)
 refine hK.out _ _ ⟨(blk_cell BK252.out 0).trans rfl, (blk_cell BK252.out 1).trans rfl, (blk_cell BK252.out 2).trans rfl, (blk_cell BK252.out 3).trans rfl, (blk_cell BK252.out 4).trans rfl, (blk_cell BK253.out 0).trans rfl, (blk_cell BK253.out 1).trans rfl, (blk_cell BK253.out 2).trans rfl, (blk_cell BK253.out 3).trans rfl, (blk_cell BK253.out 4).trans rfl⟩ (fun hHeld => ?_)
 clear hK K
 refine norm_ (a' := ?_) ?_ ?_
 rotate_left
 ·show Act.put _ (some 16) _ = _
  simp only [Act.put, sx_, s0_, s1_, i64_w, i32_w]
  rfl
 refine one_ (i := 5) (N := some 18) #[true, true, true, true, true, true, false, false, false] rfl rfl (one_of HT_.out kr_) (by decide) (fun K hK => ?_)
 refine goes_ Tryd.func9 kr_ rfl #[.agg #[.int .i64 a2_0, .string a2_1, .string a2_2, .slice A2_3 l2_3.length c2_3, .slice A2_4 l2_4.length c2_4]] (by rfl) rfl rfl rl_ ?_
 with_reducible refine (tolllaw06_Few.calls k a2_0 a2_1 a2_2 _ _ l2_3 _ _ l2_4 t266 t267 t268 t269 t272 _ ?side1 ?side2 ?side3 ?side4 A6.out).mono ?_
 (case side1 => exact C_ (Kd.C_below HR2_3.out HB.out))
 (case side2 => exact HC2_3.out)
 (case side3 => exact C_ (Kd.C_below HR2_4.out HB.out))
 (case side4 => exact HC2_4.out)
 rintro e w13 ⟨v270, v273, rfl, ho0, ho1, hb⟩
 refine ⟨_, rfl, ?_⟩
 have n0_ := am_ (Kd.N_mono (Kd.N_told (Kd.N_told (Kd.N_old (N_ HO256.out) hb) (Kd.R_base ho0)) (Kd.R_base ho1)) (fun _ h_ => h_.1))
 have n1_ := am_ (Kd.R_mono (Kd.R_told (Kd.R_told (Kd.R_old (R_ HO262.out) hb) (Kd.R_base ho0)) (Kd.R_base ho1)) (fun _ h_ => h_.1))
 have n2_ := am_ (Kd.R_mono (Kd.R_told (Kd.R_told (Kd.R_old (R_ HO265.out) hb) (Kd.R_base ho0)) (Kd.R_base ho1)) (fun _ h_ => h_.1))
 have n3_ := am_ (Kd.R_lower (Kd.R_new' (Kd.R_new' ho0 (Kd.R_lt (R_ HO262.out))) (Kd.R_lt (R_ HO265.out))) (below_size (bel_ HB.out)))
 have n4_ := am_ (Kd.R_lower (Kd.R_new' (Kd.R_new' ho1 (Kd.R_lt (R_ HO262.out))) (Kd.R_lt (R_ HO265.out))) (below_size (bel_ HB.out)))
 have n5_ := am_ (blk_below (g := gb252) (o := .cells #[.string a1_0, .string a1_1, .string a1_2, .slice A1_3 l1_3.length c1_3, .slice A1_4 l1_4.length c1_4] 28 (0, 0)) (blk_ BK252.out) hb)
 have n6_ := am_ (blk_below (g := gb253) (o := .cells #[.int .i64 a2_0, .string a2_1, .string a2_2, .slice A2_3 l2_3.length c2_3, .slice A2_4 l2_4.length c2_4] 26 (0, 0)) (blk_ BK253.out) hb)
 have n7_ := am_ (below_step (bel_ HB.out) hb)
 clear HO256 HO262 HO265 BK252 BK253 HB
 have HO256 := n0_
 have HO262 := n1_
 have HO265 := n2_
 have HO271 := n3_
 have HO274 := n4_
 have BK252 := n5_
 have BK253 := n6_
 have HB := n7_
 clear n0_ n1_ n2_ n3_ n4_ n5_ n6_ n7_
 (try clear hb)
 (try clear hb2)
 (try clear hk)
 (try clear hi)
 (try clear ho0)
 (try clear ho1)
 obtain ⟨Ao17, co17, eo17⟩ := Kd.R_slice HO262.out
 (first | subst eo17 | (injection eo17 with f1_ f2_ f3_; have f4_ := f1_.symm; have f5_ := f3_.symm; clear f1_ f2_ f3_; subst f4_; subst f5_))
 obtain ⟨Ao19, co19, eo19⟩ := Kd.R_slice HO265.out
 (first | subst eo19 | (injection eo19 with f1_ f2_ f3_; have f4_ := f1_.symm; have f5_ := f3_.symm; clear f1_ f2_ f3_; subst f4_; subst f5_))
 obtain ⟨Ao24, co24, eo24⟩ := Kd.R_slice HO271.out
 (first | subst eo24 | (injection eo24 with f1_ f2_ f3_; have f4_ := f1_.symm; have f5_ := f3_.symm; clear f1_ f2_ f3_; subst f4_; subst f5_))
 obtain ⟨Ao26, co26, eo26⟩ := Kd.R_slice HO274.out
 (first | subst eo26 | (injection eo26 with f1_ f2_ f3_; have f4_ := f1_.symm; have f5_ := f3_.symm; clear f1_ f2_ f3_; subst f4_; subst f5_))
 refine hK.out _ _ ⟨(blk_cell BK252.out 0).trans rfl, (blk_cell BK252.out 1).trans rfl, (blk_cell BK252.out 2).trans rfl, (blk_cell BK252.out 3).trans rfl, (blk_cell BK252.out 4).trans rfl, (blk_cell BK253.out 0).trans rfl, (blk_cell BK253.out 1).trans rfl, (blk_cell BK253.out 2).trans rfl, (blk_cell BK253.out 3).trans rfl, (blk_cell BK253.out 4).trans rfl⟩ (fun hHeld => ?_)
 clear hK K
 refine norm_ (a' := ?_) ?_ ?_
 rotate_left
 ·show Act.put _ (some 18) _ = _
  simp only [Act.put, sx_, s0_, s1_, i64_w, i32_w]
  rfl
 refine pure_ (i := 6) (N := some 0) (v := ?_) (a' := ?_) #[true, true, true, true, true, true, true, false, false] rfl rfl (any_of HT_.out kr_) (fun _ _ _ h => h) (Or.inl ⟨by rfl, ?_⟩) ?_ ?_
 rotate_left
 ·intro w'
  go_simp
  with_reducible rfl
 rotate_left
 ·simp only [Act.put, sx_, s0_, s1_, i64_w, i32_w]
  rfl
 refine last_ (i := 7) (N := none) #[true, true, true, true, true, true, true, true, false] rfl rfl (one_of HT_.out kr_) (by decide) (fun K hK => ?_)
 have hs14 : w13.cell? ⟨gb252, 0, none⟩ = some (.string a1_0) := (blk_cell BK252.out 0).trans rfl
 have hfs14 := blk_frozen BK252.out 0
 have hns14_1 := NB253_252.out
 have hms14_1 := NB252_253.out
 have hs15 : w13.cell? ⟨gb252, 1, none⟩ = some (.string a1_1) := (blk_cell BK252.out 1).trans rfl
 have hfs15 := blk_frozen BK252.out 1
 have hns15_1 := NB253_252.out
 have hms15_1 := NB252_253.out
 have hs16 : w13.cell? ⟨gb252, 2, none⟩ = some (.string a1_2) := (blk_cell BK252.out 2).trans rfl
 have hfs16 := blk_frozen BK252.out 2
 have hns16_1 := NB253_252.out
 have hms16_1 := NB252_253.out
 have hs18 : w13.cell? ⟨gb252, 3, none⟩ = some (.slice A1_3 l1_3.length c1_3) := (blk_cell BK252.out 3).trans rfl
 have hfs18 := blk_frozen BK252.out 3
 have hns18_1 := NB253_252.out
 have hms18_1 := NB252_253.out
 have hs20 : w13.cell? ⟨gb252, 4, none⟩ = some (.slice A1_4 l1_4.length c1_4) := (blk_cell BK252.out 4).trans rfl
 have hfs20 := blk_frozen BK252.out 4
 have hns20_1 := NB253_252.out
 have hms20_1 := NB252_253.out
 refine skip_ (w1 := ?_) ?_ ?_ ?_ ?_
 rotate_left
 ·rfl
 ·rfl
 ·go_simp
  rfl
 refine hK.out _ _ ?_
 clear hK K
 refine last_ (i := 8) (N := none) #[true, true, true, true, true, true, true, true, true] rfl rfl (one_of HT_.out kr_) (by decide) (fun K hK => ?_)
 have hs21 : w13.cell? ⟨gb253, 0, none⟩ = some (.int .i64 a2_0) := (blk_cell BK253.out 0).trans rfl
 have hfs21 := blk_frozen BK253.out 0
 have hns21_0 := NB252_253.out
 have hms21_0 := NB253_252.out
 have hs22 : w13.cell? ⟨gb253, 1, none⟩ = some (.string a2_1) := (blk_cell BK253.out 1).trans rfl
 have hfs22 := blk_frozen BK253.out 1
 have hns22_0 := NB252_253.out
 have hms22_0 := NB253_252.out
 have hs23 : w13.cell? ⟨gb253, 2, none⟩ = some (.string a2_2) := (blk_cell BK253.out 2).trans rfl
 have hfs23 := blk_frozen BK253.out 2
 have hns23_0 := NB252_253.out
 have hms23_0 := NB253_252.out
 have hs25 : w13.cell? ⟨gb253, 3, none⟩ = some (.slice A2_3 l2_3.length c2_3) := (blk_cell BK253.out 3).trans rfl
 have hfs25 := blk_frozen BK253.out 3
 have hns25_0 := NB252_253.out
 have hms25_0 := NB253_252.out
 have hs27 : w13.cell? ⟨gb253, 4, none⟩ = some (.slice A2_4 l2_4.length c2_4) := (blk_cell BK253.out 4).trans rfl
 have hfs27 := blk_frozen BK253.out 4
 have hns27_0 := NB252_253.out
 have hms27_0 := NB253_252.out
 refine skip_ (w1 := ?_) ?_ ?_ ?_ ?_
 rotate_left
 ·rfl
 ·rfl
 ·go_simp
  rfl
 refine hK.out _ _ ?_
 clear hK K
 refine done_ (done_of HT_.out kr_) ?_
 have hnb28 := NB252_253.out
 have hnc28 := NB253_252.out
 have hcz29_0 : w13.cell? ⟨gb252, 0, none⟩ = some (.string a1_0) := (blk_cell BK252.out 0).trans rfl
 have hcz29_1 : w13.cell? ⟨gb252, 1, none⟩ = some (.string a1_1) := (blk_cell BK252.out 1).trans rfl
 have hcz29_2 : w13.cell? ⟨gb252, 2, none⟩ = some (.string a1_2) := (blk_cell BK252.out 2).trans rfl
 have hcz29_3 : w13.cell? ⟨gb252, 3, none⟩ = some (.slice A1_3 l1_3.length c1_3) := (blk_cell BK252.out 3).trans rfl
 have hcz29_4 : w13.cell? ⟨gb252, 4, none⟩ = some (.slice A1_4 l1_4.length c1_4) := (blk_cell BK252.out 4).trans rfl
 have hfz29_0 := blk_frozen BK252.out 0
 have hfz29_1 := blk_frozen BK252.out 1
 have hfz29_2 := blk_frozen BK252.out 2
 have hfz29_3 := blk_frozen BK252.out 3
 have hfz29_4 := blk_frozen BK252.out 4
 obtain ⟨Ao30, co30, eo30⟩ := Kd.N_slice HO256.out
 subst eo30
 try go_wp2_with (first | ((with_reducible refine gate_callee (f := 21) rfl ?_); refine goesL_ (some 22) rfl rfl Tryd.func21 kr_ rfl #[.slice Ao30 t254.length co30, .agg #[.string t257, .string t258, .string t259, .slice Ao17 t260.length co17, .slice Ao19 t263.length co19]] rfl rl_ ?_; (with_reducible refine (rule_First.calls k _ _ t254 t257 t258 t259 _ _ t260 _ _ t263 t275 t276 _ ?side1 ?side2 ?side3 ?side4 ?side5 ?side6 A7.out).mono ?_); (case side1 => refine (Kd.N_reads' (e := 26) (base := w.heap.size) (ok := fun k_ => (((((k_ ≠ gb252 ∧ k_ ≠ gb253) ∧ some k_ ≠ (.slice Ao17 t260.length co17 : Value).ownBlock) ∧ some k_ ≠ (.slice Ao19 t263.length co19 : Value).ownBlock) ∧ some k_ ≠ (.slice Ao24 t269.length co24 : Value).ownBlock) ∧ some k_ ≠ (.slice Ao26 t272.length co26 : Value).ownBlock)) (n := t254.length) (c := co30) ?_).2.2; exact (by (with_reducible repeat (first | apply Kd.N_alloc | apply Kd.N_drewN | apply Kd.N_drew)); exact (Kd.N_mono (Kd.N_mono (Kd.N_far (p := ⟨gb253, 4, none⟩) (Kd.N_far (p := ⟨gb253, 3, none⟩) (Kd.N_far (p := ⟨gb253, 2, none⟩) (Kd.N_far (p := ⟨gb253, 1, none⟩) (Kd.N_far (p := ⟨gb253, 0, none⟩) (Kd.N_far (p := ⟨gb252, 4, none⟩) (Kd.N_far (p := ⟨gb252, 3, none⟩) (Kd.N_far (p := ⟨gb252, 2, none⟩) (Kd.N_far (p := ⟨gb252, 1, none⟩) (Kd.N_far (p := ⟨gb252, 0, none⟩) (Kd.N_mono (Kd.N_mono HO256.out (fun k_ hk => (⟨hk, hk.1.1.1.1.1⟩ : _ ∧ k_ ≠ gb252))) (fun k_ hk => (⟨hk, hk.1.1.1.1.1.2⟩ : _ ∧ k_ ≠ gb253))) (fun _ hk => hk.1.2) (.string t257)) (fun _ hk => hk.1.2) (.string t258)) (fun _ hk => hk.1.2) (.string t259)) (fun _ hk => hk.1.2) (.slice Ao17 t260.length co17)) (fun _ hk => hk.1.2) (.slice Ao19 t263.length co19)) (fun _ hk => hk.2) (.int .i64 t266)) (fun _ hk => hk.2) (.string t267)) (fun _ hk => hk.2) (.string t268)) (fun _ hk => hk.2) (.slice Ao24 t269.length co24)) (fun _ hk => hk.2) (.slice Ao26 t272.length co26)) (fun _ h_ => h_.1)) (fun _ h_ => h_.1)))); (case side2 => exact (Kd.N_reads' HO256.out).2.1); (case side3 => refine (Kd.R_reads' (e := 49) (base := w.heap.size) (ok := fun k_ => ((some k_ ≠ (.slice Ao19 t263.length co19 : Value).ownBlock ∧ some k_ ≠ (.slice Ao24 t269.length co24 : Value).ownBlock) ∧ some k_ ≠ (.slice Ao26 t272.length co26 : Value).ownBlock)) (n := t260.length) (c := co17) ?_).2.2; exact (by (with_reducible repeat (first | apply Kd.R_alloc | apply Kd.R_drewN | apply Kd.R_drew)); exact (Kd.R_mono (Kd.R_mono (Kd.R_far (p := ⟨gb253, 4, none⟩) (Kd.R_far (p := ⟨gb253, 3, none⟩) (Kd.R_far (p := ⟨gb253, 2, none⟩) (Kd.R_far (p := ⟨gb253, 1, none⟩) (Kd.R_far (p := ⟨gb253, 0, none⟩) (Kd.R_far (p := ⟨gb252, 4, none⟩) (Kd.R_far (p := ⟨gb252, 3, none⟩) (Kd.R_far (p := ⟨gb252, 2, none⟩) (Kd.R_far (p := ⟨gb252, 1, none⟩) (Kd.R_far (p := ⟨gb252, 0, none⟩) (Kd.R_types (Kd.R_types HO262.out BK252.out (by decide)) BK253.out (by decide)) (fun _ hk => hk.1.2) (.string t257)) (fun _ hk => hk.1.2) (.string t258)) (fun _ hk => hk.1.2) (.string t259)) (fun _ hk => hk.1.2) (.slice Ao17 t260.length co17)) (fun _ hk => hk.1.2) (.slice Ao19 t263.length co19)) (fun _ hk => hk.2) (.int .i64 t266)) (fun _ hk => hk.2) (.string t267)) (fun _ hk => hk.2) (.string t268)) (fun _ hk => hk.2) (.slice Ao24 t269.length co24)) (fun _ hk => hk.2) (.slice Ao26 t272.length co26)) (fun _ h_ => h_.1)) (fun _ h_ => h_.1)))); (case side4 => exact (Kd.R_reads' HO262.out).2.1); (case side5 => refine (Kd.R_reads' (e := 49) (base := w.heap.size) (ok := fun k_ => ((some k_ ≠ (.slice Ao17 t260.length co17 : Value).ownBlock ∧ some k_ ≠ (.slice Ao24 t269.length co24 : Value).ownBlock) ∧ some k_ ≠ (.slice Ao26 t272.length co26 : Value).ownBlock)) (n := t263.length) (c := co19) ?_).2.2; exact (by (with_reducible repeat (first | apply Kd.R_alloc | apply Kd.R_drewN | apply Kd.R_drew)); exact (Kd.R_mono (Kd.R_mono (Kd.R_far (p := ⟨gb253, 4, none⟩) (Kd.R_far (p := ⟨gb253, 3, none⟩) (Kd.R_far (p := ⟨gb253, 2, none⟩) (Kd.R_far (p := ⟨gb253, 1, none⟩) (Kd.R_far (p := ⟨gb253, 0, none⟩) (Kd.R_far (p := ⟨gb252, 4, none⟩) (Kd.R_far (p := ⟨gb252, 3, none⟩) (Kd.R_far (p := ⟨gb252, 2, none⟩) (Kd.R_far (p := ⟨gb252, 1, none⟩) (Kd.R_far (p := ⟨gb252, 0, none⟩) (Kd.R_types (Kd.R_types HO265.out BK252.out (by decide)) BK253.out (by decide)) (fun _ hk => hk.1.2) (.string t257)) (fun _ hk => hk.1.2) (.string t258)) (fun _ hk => hk.1.2) (.string t259)) (fun _ hk => hk.1.2) (.slice Ao17 t260.length co17)) (fun _ hk => hk.1.2) (.slice Ao19 t263.length co19)) (fun _ hk => hk.2) (.int .i64 t266)) (fun _ hk => hk.2) (.string t267)) (fun _ hk => hk.2) (.string t268)) (fun _ hk => hk.2) (.slice Ao24 t269.length co24)) (fun _ hk => hk.2) (.slice Ao26 t272.length co26)) (fun _ h_ => h_.1)) (fun _ h_ => h_.1)))); (case side6 => exact (Kd.R_reads' HO265.out).2.1); rintro e w31 ⟨rfl, hb⟩; refine ⟨_, rfl, ?_⟩; have n0_ := am_ (Kd.N_below (by (with_reducible repeat (first | apply Kd.N_alloc | apply Kd.N_drewN | apply Kd.N_drew)); exact (Kd.N_mono (Kd.N_mono (Kd.N_far (p := ⟨gb253, 4, none⟩) (Kd.N_far (p := ⟨gb253, 3, none⟩) (Kd.N_far (p := ⟨gb253, 2, none⟩) (Kd.N_far (p := ⟨gb253, 1, none⟩) (Kd.N_far (p := ⟨gb253, 0, none⟩) (Kd.N_far (p := ⟨gb252, 4, none⟩) (Kd.N_far (p := ⟨gb252, 3, none⟩) (Kd.N_far (p := ⟨gb252, 2, none⟩) (Kd.N_far (p := ⟨gb252, 1, none⟩) (Kd.N_far (p := ⟨gb252, 0, none⟩) (Kd.N_mono (Kd.N_mono HO256.out (fun k_ hk => (⟨hk, hk.1.1.1.1.1⟩ : _ ∧ k_ ≠ gb252))) (fun k_ hk => (⟨hk, hk.1.1.1.1.1.2⟩ : _ ∧ k_ ≠ gb253))) (fun _ hk => hk.1.2) (.string t257)) (fun _ hk => hk.1.2) (.string t258)) (fun _ hk => hk.1.2) (.string t259)) (fun _ hk => hk.1.2) (.slice Ao17 t260.length co17)) (fun _ hk => hk.1.2) (.slice Ao19 t263.length co19)) (fun _ hk => hk.2) (.int .i64 t266)) (fun _ hk => hk.2) (.string t267)) (fun _ hk => hk.2) (.string t268)) (fun _ hk => hk.2) (.slice Ao24 t269.length co24)) (fun _ hk => hk.2) (.slice Ao26 t272.length co26)) (fun _ h_ => h_.1)) (fun _ h_ => h_.1))) hb); have n1_ := am_ (Kd.R_below (by (with_reducible repeat (first | apply Kd.R_alloc | apply Kd.R_drewN | apply Kd.R_drew)); exact (Kd.R_mono (Kd.R_mono (Kd.R_far (p := ⟨gb253, 4, none⟩) (Kd.R_far (p := ⟨gb253, 3, none⟩) (Kd.R_far (p := ⟨gb253, 2, none⟩) (Kd.R_far (p := ⟨gb253, 1, none⟩) (Kd.R_far (p := ⟨gb253, 0, none⟩) (Kd.R_far (p := ⟨gb252, 4, none⟩) (Kd.R_far (p := ⟨gb252, 3, none⟩) (Kd.R_far (p := ⟨gb252, 2, none⟩) (Kd.R_far (p := ⟨gb252, 1, none⟩) (Kd.R_far (p := ⟨gb252, 0, none⟩) (Kd.R_types (Kd.R_types HO262.out BK252.out (by decide)) BK253.out (by decide)) (fun _ hk => hk.1.2) (.string t257)) (fun _ hk => hk.1.2) (.string t258)) (fun _ hk => hk.1.2) (.string t259)) (fun _ hk => hk.1.2) (.slice Ao17 t260.length co17)) (fun _ hk => hk.1.2) (.slice Ao19 t263.length co19)) (fun _ hk => hk.2) (.int .i64 t266)) (fun _ hk => hk.2) (.string t267)) (fun _ hk => hk.2) (.string t268)) (fun _ hk => hk.2) (.slice Ao24 t269.length co24)) (fun _ hk => hk.2) (.slice Ao26 t272.length co26)) (fun _ h_ => h_.1)) (fun _ h_ => h_.1))) hb); have n2_ := am_ (Kd.R_below (by (with_reducible repeat (first | apply Kd.R_alloc | apply Kd.R_drewN | apply Kd.R_drew)); exact (Kd.R_mono (Kd.R_mono (Kd.R_far (p := ⟨gb253, 4, none⟩) (Kd.R_far (p := ⟨gb253, 3, none⟩) (Kd.R_far (p := ⟨gb253, 2, none⟩) (Kd.R_far (p := ⟨gb253, 1, none⟩) (Kd.R_far (p := ⟨gb253, 0, none⟩) (Kd.R_far (p := ⟨gb252, 4, none⟩) (Kd.R_far (p := ⟨gb252, 3, none⟩) (Kd.R_far (p := ⟨gb252, 2, none⟩) (Kd.R_far (p := ⟨gb252, 1, none⟩) (Kd.R_far (p := ⟨gb252, 0, none⟩) (Kd.R_types (Kd.R_types HO265.out BK252.out (by decide)) BK253.out (by decide)) (fun _ hk => hk.1.2) (.string t257)) (fun _ hk => hk.1.2) (.string t258)) (fun _ hk => hk.1.2) (.string t259)) (fun _ hk => hk.1.2) (.slice Ao17 t260.length co17)) (fun _ hk => hk.1.2) (.slice Ao19 t263.length co19)) (fun _ hk => hk.2) (.int .i64 t266)) (fun _ hk => hk.2) (.string t267)) (fun _ hk => hk.2) (.string t268)) (fun _ hk => hk.2) (.slice Ao24 t269.length co24)) (fun _ hk => hk.2) (.slice Ao26 t272.length co26)) (fun _ h_ => h_.1)) (fun _ h_ => h_.1))) hb); have n3_ := am_ (Kd.R_below (by (with_reducible repeat (first | apply Kd.R_alloc | apply Kd.R_drewN | apply Kd.R_drew)); exact (Kd.R_mono (Kd.R_mono (Kd.R_far (p := ⟨gb253, 4, none⟩) (Kd.R_far (p := ⟨gb253, 3, none⟩) (Kd.R_far (p := ⟨gb253, 2, none⟩) (Kd.R_far (p := ⟨gb253, 1, none⟩) (Kd.R_far (p := ⟨gb253, 0, none⟩) (Kd.R_far (p := ⟨gb252, 4, none⟩) (Kd.R_far (p := ⟨gb252, 3, none⟩) (Kd.R_far (p := ⟨gb252, 2, none⟩) (Kd.R_far (p := ⟨gb252, 1, none⟩) (Kd.R_far (p := ⟨gb252, 0, none⟩) (Kd.R_types (Kd.R_types HO271.out BK252.out (by decide)) BK253.out (by decide)) (fun _ hk => hk.1.2) (.string t257)) (fun _ hk => hk.1.2) (.string t258)) (fun _ hk => hk.1.2) (.string t259)) (fun _ hk => hk.1.2) (.slice Ao17 t260.length co17)) (fun _ hk => hk.1.2) (.slice Ao19 t263.length co19)) (fun _ hk => hk.2) (.int .i64 t266)) (fun _ hk => hk.2) (.string t267)) (fun _ hk => hk.2) (.string t268)) (fun _ hk => hk.2) (.slice Ao24 t269.length co24)) (fun _ hk => hk.2) (.slice Ao26 t272.length co26)) (fun _ h_ => h_.1)) (fun _ h_ => h_.1))) hb); have n4_ := am_ (Kd.R_below (by (with_reducible repeat (first | apply Kd.R_alloc | apply Kd.R_drewN | apply Kd.R_drew)); exact (Kd.R_mono (Kd.R_mono (Kd.R_far (p := ⟨gb253, 4, none⟩) (Kd.R_far (p := ⟨gb253, 3, none⟩) (Kd.R_far (p := ⟨gb253, 2, none⟩) (Kd.R_far (p := ⟨gb253, 1, none⟩) (Kd.R_far (p := ⟨gb253, 0, none⟩) (Kd.R_far (p := ⟨gb252, 4, none⟩) (Kd.R_far (p := ⟨gb252, 3, none⟩) (Kd.R_far (p := ⟨gb252, 2, none⟩) (Kd.R_far (p := ⟨gb252, 1, none⟩) (Kd.R_far (p := ⟨gb252, 0, none⟩) (Kd.R_types (Kd.R_types HO274.out BK252.out (by decide)) BK253.out (by decide)) (fun _ hk => hk.1.2) (.string t257)) (fun _ hk => hk.1.2) (.string t258)) (fun _ hk => hk.1.2) (.string t259)) (fun _ hk => hk.1.2) (.slice Ao17 t260.length co17)) (fun _ hk => hk.1.2) (.slice Ao19 t263.length co19)) (fun _ hk => hk.2) (.int .i64 t266)) (fun _ hk => hk.2) (.string t267)) (fun _ hk => hk.2) (.string t268)) (fun _ hk => hk.2) (.slice Ao24 t269.length co24)) (fun _ hk => hk.2) (.slice Ao26 t272.length co26)) (fun _ h_ => h_.1)) (fun _ h_ => h_.1))) hb); have n5_ := am_ (blk_below (g := gb252) (o := .cells #[.string t257, .string t258, .string t259, .slice Ao17 t260.length co17, .slice Ao19 t263.length co19] 28 (0, 0)) (by (with_reducible repeat (first | refine blk_drewN ?_ _ | refine blk_drew ?_ | refine blk_alloc ?_ _)); refine blk_far ?_ NB252_253.out _; (with_reducible repeat (first | refine blk_drewN ?_ _ | refine blk_drew ?_ | refine blk_alloc ?_ _)); refine blk_far ?_ NB252_253.out _; (with_reducible repeat (first | refine blk_drewN ?_ _ | refine blk_drew ?_ | refine blk_alloc ?_ _)); refine blk_far ?_ NB252_253.out _; (with_reducible repeat (first | refine blk_drewN ?_ _ | refine blk_drew ?_ | refine blk_alloc ?_ _)); refine blk_far ?_ NB252_253.out _; (with_reducible repeat (first | refine blk_drewN ?_ _ | refine blk_drew ?_ | refine blk_alloc ?_ _)); refine blk_far ?_ NB252_253.out _; (with_reducible repeat (first | refine blk_drewN ?_ _ | refine blk_drew ?_ | refine blk_alloc ?_ _)); refine blk_put (cs := #[.string t257, .string t258, .string t259, .slice Ao17 t260.length co17, .slice A1_4 l1_4.length c1_4]) ?_ 4 _ rfl; (with_reducible repeat (first | refine blk_drewN ?_ _ | refine blk_drew ?_ | refine blk_alloc ?_ _)); refine blk_put (cs := #[.string t257, .string t258, .string t259, .slice A1_3 l1_3.length c1_3, .slice A1_4 l1_4.length c1_4]) ?_ 3 _ rfl; (with_reducible repeat (first | refine blk_drewN ?_ _ | refine blk_drew ?_ | refine blk_alloc ?_ _)); refine blk_put (cs := #[.string t257, .string t258, .string a1_2, .slice A1_3 l1_3.length c1_3, .slice A1_4 l1_4.length c1_4]) ?_ 2 _ rfl; (with_reducible repeat (first | refine blk_drewN ?_ _ | refine blk_drew ?_ | refine blk_alloc ?_ _)); refine blk_put (cs := #[.string t257, .string a1_1, .string a1_2, .slice A1_3 l1_3.length c1_3, .slice A1_4 l1_4.length c1_4]) ?_ 1 _ rfl; (with_reducible repeat (first | refine blk_drewN ?_ _ | refine blk_drew ?_ | refine blk_alloc ?_ _)); refine blk_put (cs := #[.string a1_0, .string a1_1, .string a1_2, .slice A1_3 l1_3.length c1_3, .slice A1_4 l1_4.length c1_4]) ?_ 0 _ rfl; (with_reducible repeat (first | refine blk_drewN ?_ _ | refine blk_drew ?_ | refine blk_alloc ?_ _)); exact BK252.out) hb); have n6_ := am_ (blk_below (g := gb253) (o := .cells #[.int .i64 t266, .string t267, .string t268, .slice Ao24 t269.length co24, .slice Ao26 t272.length co26] 26 (0, 0)) (by (with_reducible repeat (first | refine blk_drewN ?_ _ | refine blk_drew ?_ | refine blk_alloc ?_ _)); refine blk_put (cs := #[.int .i64 t266, .string t267, .string t268, .slice Ao24 t269.length co24, .slice A2_4 l2_4.length c2_4]) ?_ 4 _ rfl; (with_reducible repeat (first | refine blk_drewN ?_ _ | refine blk_drew ?_ | refine blk_alloc ?_ _)); refine blk_put (cs := #[.int .i64 t266, .string t267, .string t268, .slice A2_3 l2_3.length c2_3, .slice A2_4 l2_4.length c2_4]) ?_ 3 _ rfl; (with_reducible repeat (first | refine blk_drewN ?_ _ | refine blk_drew ?_ | refine blk_alloc ?_ _)); refine blk_put (cs := #[.int .i64 t266, .string t267, .string a2_2, .slice A2_3 l2_3.length c2_3, .slice A2_4 l2_4.length c2_4]) ?_ 2 _ rfl; (with_reducible repeat (first | refine blk_drewN ?_ _ | refine blk_drew ?_ | refine blk_alloc ?_ _)); refine blk_put (cs := #[.int .i64 t266, .string a2_1, .string a2_2, .slice A2_3 l2_3.length c2_3, .slice A2_4 l2_4.length c2_4]) ?_ 1 _ rfl; (with_reducible repeat (first | refine blk_drewN ?_ _ | refine blk_drew ?_ | refine blk_alloc ?_ _)); refine blk_put (cs := #[.int .i64 a2_0, .string a2_1, .string a2_2, .slice A2_3 l2_3.length c2_3, .slice A2_4 l2_4.length c2_4]) ?_ 0 _ rfl; (with_reducible repeat (first | refine blk_drewN ?_ _ | refine blk_drew ?_ | refine blk_alloc ?_ _)); refine blk_far ?_ NB253_252.out _; (with_reducible repeat (first | refine blk_drewN ?_ _ | refine blk_drew ?_ | refine blk_alloc ?_ _)); refine blk_far ?_ NB253_252.out _; (with_reducible repeat (first | refine blk_drewN ?_ _ | refine blk_drew ?_ | refine blk_alloc ?_ _)); refine blk_far ?_ NB253_252.out _; (with_reducible repeat (first | refine blk_drewN ?_ _ | refine blk_drew ?_ | refine blk_alloc ?_ _)); refine blk_far ?_ NB253_252.out _; (with_reducible repeat (first | refine blk_drewN ?_ _ | refine blk_drew ?_ | refine blk_alloc ?_ _)); refine blk_far ?_ NB253_252.out _; (with_reducible repeat (first | refine blk_drewN ?_ _ | refine blk_drew ?_ | refine blk_alloc ?_ _)); exact BK253.out) hb); have n7_ := am_ (below_step (bel_ HB.out) hb); clear HO256 HO262 HO265 HO271 HO274 BK252 BK253 HB; have HO256 := n0_; have HO262 := n1_; have HO265 := n2_; have HO271 := n3_; have HO274 := n4_; have BK252 := n5_; have BK253 := n6_; have HB := n7_; clear n0_ n1_ n2_ n3_ n4_ n5_ n6_ n7_; (try clear hb); (try clear hb2); (try clear hk); (try clear hi)))
 go_loopg [9] k (fun kq v9 w' => ∃ (x9_1 : Int), v9 = .int .i64 x9_1 ∧ Aside0 (tolllaw06_RuleFirst_g1.l0 kq t254 t275 t276 x9_1 t257 t258 t259 t260 t263 t266 t267 t268 t269 t272 = some r) ∧ Aside0 (kq ≤ k) ∧ Aside0 (Kd.N k26 26 w' w.heap.size (fun k_ => some k_ ≠ ((.slice Ao17 t260.length co17) : Value).ownBlock ∧ some k_ ≠ ((.slice Ao19 t263.length co19) : Value).ownBlock ∧ some k_ ≠ ((.slice Ao24 t269.length co24) : Value).ownBlock ∧ some k_ ≠ ((.slice Ao26 t272.length co26) : Value).ownBlock ∧ k_ ≠ gb252 ∧ k_ ≠ gb253) (.slice Ao30 t254.length co30) t254) ∧ Aside0 (Kd.R k49 49 w' w.heap.size (fun k_ => some k_ ≠ ((.slice Ao19 t263.length co19) : Value).ownBlock ∧ some k_ ≠ ((.slice Ao24 t269.length co24) : Value).ownBlock ∧ some k_ ≠ ((.slice Ao26 t272.length co26) : Value).ownBlock) (.slice Ao17 t260.length co17) t260) ∧ Aside0 (Kd.R k49 49 w' w.heap.size (fun k_ => some k_ ≠ ((.slice Ao17 t260.length co17) : Value).ownBlock ∧ some k_ ≠ ((.slice Ao24 t269.length co24) : Value).ownBlock ∧ some k_ ≠ ((.slice Ao26 t272.length co26) : Value).ownBlock) (.slice Ao19 t263.length co19) t263) ∧ Aside0 (Kd.R k49 49 w' w.heap.size (fun k_ => some k_ ≠ ((.slice Ao17 t260.length co17) : Value).ownBlock ∧ some k_ ≠ ((.slice Ao19 t263.length co19) : Value).ownBlock ∧ some k_ ≠ ((.slice Ao26 t272.length co26) : Value).ownBlock) (.slice Ao24 t269.length co24) t269) ∧ Aside0 (Kd.R k49 49 w' w.heap.size (fun k_ => some k_ ≠ ((.slice Ao17 t260.length co17) : Value).ownBlock ∧ some k_ ≠ ((.slice Ao19 t263.length co19) : Value).ownBlock ∧ some k_ ≠ ((.slice Ao24 t269.length co24) : Value).ownBlock) (.slice Ao26 t272.length co26) t272) ∧ Aside0 (w'.heap[gb252]? = some (.cells #[.string t257, .string t258, .string t259, (.slice Ao17 t260.length co17), (.slice Ao19 t263.length co19)] 28 (0, 0))) ∧ Aside0 (w'.heap[gb253]? = some (.cells #[.int .i64 t266, .string t267, .string t268, (.slice Ao24 t269.length co24), (.slice Ao26 t272.length co26)] 26 (0, 0))) ∧ Aside0 (Below w.heap.size w w'))
 case atStart => exact ⟨(0), sd_, H', ⟨Nat.le_refl _⟩, ⟨by (with_reducible repeat (first | apply Kd.N_alloc | apply Kd.N_drewN | apply Kd.N_drew)); exact Kd.N_mono HO256.out (fun _ hk => ⟨hk.1.1.1.2, ⟨hk.1.1.2, ⟨hk.1.2, ⟨hk.2, ⟨hk.1.1.1.1.1, hk.1.1.1.1.2⟩⟩⟩⟩⟩)⟩, ⟨by (with_reducible repeat (first | apply Kd.R_alloc | apply Kd.R_drewN | apply Kd.R_drew)); exact Kd.R_mono HO262.out (fun _ hk => ⟨hk.1.1, ⟨hk.1.2, hk.2⟩⟩)⟩, ⟨by (with_reducible repeat (first | apply Kd.R_alloc | apply Kd.R_drewN | apply Kd.R_drew)); exact Kd.R_mono HO265.out (fun _ hk => ⟨hk.1.1, ⟨hk.1.2, hk.2⟩⟩)⟩, ⟨by (with_reducible repeat (first | apply Kd.R_alloc | apply Kd.R_drewN | apply Kd.R_drew)); exact Kd.R_mono HO271.out (fun _ hk => ⟨hk.1.2, ⟨hk.2, hk.1.1⟩⟩)⟩, ⟨by (with_reducible repeat (first | apply Kd.R_alloc | apply Kd.R_drewN | apply Kd.R_drew)); exact Kd.R_mono HO274.out (fun _ hk => ⟨hk.1.2, ⟨hk.2, hk.1.1⟩⟩)⟩, ⟨by (with_reducible repeat (first | refine blk_drewN ?_ _ | refine blk_drew ?_ | refine blk_alloc ?_ _)); exact BK252.out⟩, ⟨by (with_reducible repeat (first | refine blk_drewN ?_ _ | refine blk_drew ?_ | refine blk_alloc ?_ _)); exact BK253.out⟩, ⟨bel_ HB.out⟩⟩
 case round =>
  clear H'
  try clear c1
  try clear c2
  try clear p2
  try clear c5
  try clear c9
  try clear c10
  try clear c20
  try clear c21
  try clear c28
  try clear hcz29_0
  try clear hcz29_1
  try clear hcz29_2
  try clear hcz29_3
  try clear hcz29_4
  try clear hfz29_0
  try clear hfz29_1
  try clear hfz29_2
  try clear hfz29_3
  try clear hfz29_4
  obtain ⟨x9_1, rfl, HA, HK1, HO_0, HO_253003, HO_253004, HO_254003, HO_254004, BK252, BK253, HB⟩ := hrel
  cases gk with
  | zero => exact absurd HA.out (by simp [tolllaw06_RuleFirst_g1.l0])
  | succ k1 =>
   have H := HA.out
   clear HA
   simp only [tolllaw06_RuleFirst_g1.l0] at H
   by_cases c32 : x9_1 < (t254.length : Int)
   ·rw [if_pos c32] at H
    have c32b0 : decide (x9_1 < (t254.length : Int)) = true := decide_eq_true c32
    clear c32
    by_cases c33 : 0 ≤ x9_1
    ·rw [if_pos c33] at H
     have c33b0 : decide (0 ≤ x9_1) = true := decide_eq_true c33
     clear c33
     replace H := Option.bind_eq_some_iff.mp H
     obtain ⟨t278, A340, H⟩ := H
     replace H : (if t278 = true then (if t276 = true then (if t275 < 0 then (none) else (if t275 ≥ (t254.length : Int) then (none) else (if 0 ≤ t275 then (if t275 < (t254.length : Int) then ((rule_Order.f ((rd_T26 t254 x9_1).f0.f0) ((rd_T26 t254 x9_1).f0.f1) ((rd_T26 t254 x9_1).f1) ((rd_T26 t254 x9_1).f2) ((rd_T26 t254 x9_1).f3) ((rd_T26 t254 t275).f0.f0) ((rd_T26 t254 t275).f0.f1) ((rd_T26 t254 t275).f1) ((rd_T26 t254 t275).f2) ((rd_T26 t254 t275).f3)).bind fun t281 => (if t281 < 0 then (none) else (tolllaw06_RuleFirst_g1.l0 k1 t254 t275 t276 (wrap64 (x9_1 + 1)) t257 t258 t259 t260 t263 t266 t267 t268 t269 t272))) else (none)) else (none)))) else (none)) else (tolllaw06_RuleFirst_g1.l0 k1 t254 t275 t276 (wrap64 (x9_1 + 1)) t257 t258 t259 t260 t263 t266 t267 t268 t269 t272)) = some r := H
     have A34 := Aside0.mk A340
     clear A340
     by_cases c35 : t278 = true
     ·subst c35
      have H1 : (if t276 = true then (if t275 < 0 then (none) else (if t275 ≥ (t254.length : Int) then (none) else (if 0 ≤ t275 then (if t275 < (t254.length : Int) then ((rule_Order.f ((rd_T26 t254 x9_1).f0.f0) ((rd_T26 t254 x9_1).f0.f1) ((rd_T26 t254 x9_1).f1) ((rd_T26 t254 x9_1).f2) ((rd_T26 t254 x9_1).f3) ((rd_T26 t254 t275).f0.f0) ((rd_T26 t254 t275).f0.f1) ((rd_T26 t254 t275).f1) ((rd_T26 t254 t275).f2) ((rd_T26 t254 t275).f3)).bind fun t281 => (if t281 < 0 then (none) else (tolllaw06_RuleFirst_g1.l0 k1 t254 t275 t276 (wrap64 (x9_1 + 1)) t257 t258 t259 t260 t263 t266 t267 t268 t269 t272))) else (none)) else (none)))) else (none)) = some r := by rw [if_pos rfl] at H; exact H
      clear H
      have H := H1
      clear H1
      by_cases c36 : t276 = true
      ·subst c36
       have H1 : (if t275 < 0 then (none) else (if t275 ≥ (t254.length : Int) then (none) else (if 0 ≤ t275 then (if t275 < (t254.length : Int) then ((rule_Order.f ((rd_T26 t254 x9_1).f0.f0) ((rd_T26 t254 x9_1).f0.f1) ((rd_T26 t254 x9_1).f1) ((rd_T26 t254 x9_1).f2) ((rd_T26 t254 x9_1).f3) ((rd_T26 t254 t275).f0.f0) ((rd_T26 t254 t275).f0.f1) ((rd_T26 t254 t275).f1) ((rd_T26 t254 t275).f2) ((rd_T26 t254 t275).f3)).bind fun t281 => (if t281 < 0 then (none) else (tolllaw06_RuleFirst_g1.l0 k1 t254 t275 true (wrap64 (x9_1 + 1)) t257 t258 t259 t260 t263 t266 t267 t268 t269 t272))) else (none)) else (none)))) = some r := by rw [if_pos rfl] at H; exact H
       clear H
       have H := H1
       clear H1
       by_cases c37 : t275 < 0
       ·rw [if_pos c37] at H
        exact absurd H (by simp)
       ·rw [if_neg c37] at H
        have c37b0 : decide (t275 < 0) = false := decide_eq_false c37
        clear c37
        by_cases c38 : t275 ≥ (t254.length : Int)
        ·rw [if_pos c38] at H
         exact absurd H (by simp)
        ·rw [if_neg c38] at H
         have c38b0 : decide ((t254.length : Int) ≤ t275) = false := decide_eq_false c38
         clear c38
         by_cases c39 : 0 ≤ t275
         ·rw [if_pos c39] at H
          have c39b0 : decide (0 ≤ t275) = true := decide_eq_true c39
          clear c39
          by_cases c40 : t275 < (t254.length : Int)
          ·rw [if_pos c40] at H
           have c40b0 : decide (t275 < (t254.length : Int)) = true := decide_eq_true c40
           clear c40
           replace H := Option.bind_eq_some_iff.mp H
           obtain ⟨t281, A410, H⟩ := H
           replace H : (if t281 < 0 then (none) else (tolllaw06_RuleFirst_g1.l0 k1 t254 t275 true (wrap64 (x9_1 + 1)) t257 t258 t259 t260 t263 t266 t267 t268 t269 t272)) = some r := H
           have A41 := Aside0.mk A410
           clear A410
           by_cases c42 : t281 < 0
           ·rw [if_pos c42] at H
            exact absurd H (by simp)
           ·rw [if_neg c42] at H
            have c42b0 : decide (t281 < 0) = false := decide_eq_false c42
            clear c42
            have H' := Aside0.mk H
            clear H
            try go_wp2
            have n0_ := am_ (Kd.N_drew HO_0.out)
            have n1_ := am_ (Kd.R_drew HO_253003.out)
            have n2_ := am_ (Kd.R_drew HO_253004.out)
            have n3_ := am_ (Kd.R_drew HO_254003.out)
            have n4_ := am_ (Kd.R_drew HO_254004.out)
            have n5_ := am_ (blk_drew BK252.out)
            have n6_ := am_ (blk_drew BK253.out)
            have n7_ := am_ (below_drew1 HB.out)
            clear HO_0 HO_253003 HO_253004 HO_254003 HO_254004 BK252 BK253 HB
            have HO_0 := n0_
            have HO_253003 := n1_
            have HO_253004 := n2_
            have HO_254003 := n3_
            have HO_254004 := n4_
            have BK252 := n5_
            have BK253 := n6_
            have HB := n7_
            clear n0_ n1_ n2_ n3_ n4_ n5_ n6_ n7_
            have p277 : 0 ≤ (x9_1 : Int) := of_decide_eq_true as_
            have q277 : x9_1 < (t254.length : Int) := of_decide_eq_true as_
            obtain ⟨ad277, A277_3, c277_3, A277_4, c277_4, e277, hx277_0, hx277_1, hx277_2, hx277_3, hx277_4, hl277_3, hi277_3, hl277_4, hi277_4⟩ := at_T26 (Kd.N_reads' HO_0.out).2.2 x9_1 p277 q277
            cases e277
            obtain ⟨ce277, hce277, hMe277, hcc277⟩ := Kd.N_get HO_0.out z26 x9_1 p277 (by first | exact q277 | exact of_decide_eq_true as_ | (have e_ := (Kd.N_reads' HO_0.out).1; omega))
            obtain ⟨ua277_3, uc277_3, ua277_4, uc277_4, rfl, ul277_3, ge277_3, ul277_4, ge277_4⟩ := k26_openF hMe277
            have hv277_3 := hcc277 3 _ rfl
            rw [add_field _ _ 3 (by omega)] at hv277_3
            replace hv277_3 := Option.some.inj (hv277_3.symm.trans hx277_3)
            injection hv277_3 with hva_ hvn_ hvc_
            rw [hva_] at ge277_3
            rw [hvc_] at ul277_3
            have HL277_3 := am_ (show Kd.V k49 49 _ w.heap.size _ _ ((rd_T26 t254 x9_1).f2) from Kd.V_mk ul277_3 ge277_3)
            clear hva_ hvn_ hvc_ ge277_3 ul277_3
            have hv277_4 := hcc277 4 _ rfl
            rw [add_field _ _ 4 (by omega)] at hv277_4
            replace hv277_4 := Option.some.inj (hv277_4.symm.trans hx277_4)
            injection hv277_4 with hva_ hvn_ hvc_
            rw [hva_] at ge277_4
            rw [hvc_] at ul277_4
            have HL277_4 := am_ (show Kd.V k49 49 _ w.heap.size _ _ ((rd_T26 t254 x9_1).f3) from Kd.V_mk ul277_4 ge277_4)
            clear hva_ hvn_ hvc_ ge277_4 ul277_4 hcc277 hce277
            have HR277_3 := Aside0.mk hi277_3
            have HC277_3 := Aside0.mk hl277_3
            clear hi277_3 hl277_3
            have HR277_4 := Aside0.mk hi277_4
            have HC277_4 := Aside0.mk hl277_4
            clear hi277_4 hl277_4
            replace p277 := eq_true p277
            replace q277 := eq_true q277
            have p279 : 0 ≤ (x9_1 : Int) := of_decide_eq_true as_
            have q279 : x9_1 < (t254.length : Int) := of_decide_eq_true as_
            obtain ⟨ad279, A279_3, c279_3, A279_4, c279_4, e279, hx279_0, hx279_1, hx279_2, hx279_3, hx279_4, hl279_3, hi279_3, hl279_4, hi279_4⟩ := at_T26 (Kd.N_reads' HO_0.out).2.2 x9_1 p279 q279
            obtain rfl : ad277 = ad279 := (by injection e279)
            obtain ⟨ce279, hce279, hMe279, hcc279⟩ := Kd.N_get HO_0.out z26 x9_1 p279 (by first | exact q279 | exact of_decide_eq_true as_ | (have e_ := (Kd.N_reads' HO_0.out).1; omega))
            obtain ⟨ua279_3, uc279_3, ua279_4, uc279_4, rfl, ul279_3, ge279_3, ul279_4, ge279_4⟩ := k26_openF hMe279
            have hv279_3 := hcc279 3 _ rfl
            rw [add_field _ _ 3 (by omega)] at hv279_3
            replace hv279_3 := Option.some.inj (hv279_3.symm.trans hx279_3)
            injection hv279_3 with hva_ hvn_ hvc_
            rw [hva_] at ge279_3
            rw [hvc_] at ul279_3
            have HL279_3 := am_ (show Kd.V k49 49 _ w.heap.size _ _ ((rd_T26 t254 x9_1).f2) from Kd.V_mk ul279_3 ge279_3)
            clear hva_ hvn_ hvc_ ge279_3 ul279_3
            have hv279_4 := hcc279 4 _ rfl
            rw [add_field _ _ 4 (by omega)] at hv279_4
            replace hv279_4 := Option.some.inj (hv279_4.symm.trans hx279_4)
            injection hv279_4 with hva_ hvn_ hvc_
            rw [hva_] at ge279_4
            rw [hvc_] at ul279_4
            have HL279_4 := am_ (show Kd.V k49 49 _ w.heap.size _ _ ((rd_T26 t254 x9_1).f3) from Kd.V_mk ul279_4 ge279_4)
            clear hva_ hvn_ hvc_ ge279_4 ul279_4 hcc279 hce279
            have HR279_3 := Aside0.mk hi279_3
            have HC279_3 := Aside0.mk hl279_3
            clear hi279_3 hl279_3
            have HR279_4 := Aside0.mk hi279_4
            have HC279_4 := Aside0.mk hl279_4
            clear hi279_4 hl279_4
            replace p279 := eq_true p279
            replace q279 := eq_true q279
            have p280 : 0 ≤ (t275 : Int) := of_decide_eq_true as_
            have q280 : t275 < (t254.length : Int) := of_decide_eq_true as_
            obtain ⟨ad280, A280_3, c280_3, A280_4, c280_4, e280, hx280_0, hx280_1, hx280_2, hx280_3, hx280_4, hl280_3, hi280_3, hl280_4, hi280_4⟩ := at_T26 (Kd.N_reads' HO_0.out).2.2 t275 p280 q280
            obtain rfl : ad277 = ad280 := (by injection e280)
            obtain ⟨ce280, hce280, hMe280, hcc280⟩ := Kd.N_get HO_0.out z26 t275 p280 (by first | exact q280 | exact of_decide_eq_true as_ | (have e_ := (Kd.N_reads' HO_0.out).1; omega))
            obtain ⟨ua280_3, uc280_3, ua280_4, uc280_4, rfl, ul280_3, ge280_3, ul280_4, ge280_4⟩ := k26_openF hMe280
            have hv280_3 := hcc280 3 _ rfl
            rw [add_field _ _ 3 (by omega)] at hv280_3
            replace hv280_3 := Option.some.inj (hv280_3.symm.trans hx280_3)
            injection hv280_3 with hva_ hvn_ hvc_
            rw [hva_] at ge280_3
            rw [hvc_] at ul280_3
            have HL280_3 := am_ (show Kd.V k49 49 _ w.heap.size _ _ ((rd_T26 t254 t275).f2) from Kd.V_mk ul280_3 ge280_3)
            clear hva_ hvn_ hvc_ ge280_3 ul280_3
            have hv280_4 := hcc280 4 _ rfl
            rw [add_field _ _ 4 (by omega)] at hv280_4
            replace hv280_4 := Option.some.inj (hv280_4.symm.trans hx280_4)
            injection hv280_4 with hva_ hvn_ hvc_
            rw [hva_] at ge280_4
            rw [hvc_] at ul280_4
            have HL280_4 := am_ (show Kd.V k49 49 _ w.heap.size _ _ ((rd_T26 t254 t275).f3) from Kd.V_mk ul280_4 ge280_4)
            clear hva_ hvn_ hvc_ ge280_4 ul280_4 hcc280 hce280
            have HR280_3 := Aside0.mk hi280_3
            have HC280_3 := Aside0.mk hl280_3
            clear hi280_3 hl280_3
            have HR280_4 := Aside0.mk hi280_4
            have HC280_4 := Aside0.mk hl280_4
            clear hi280_4 hl280_4
            replace p280 := eq_true p280
            replace q280 := eq_true q280
            refine start_ (n := 32) (S := fun w' => w'.cell? ⟨gb252, 0, none⟩ = some (.string t257) ∧ w'.cell? ⟨gb252, 1, none⟩ = some (.string t258) ∧ w'.cell? ⟨gb252, 2, none⟩ = some (.string t259) ∧ w'.cell? ⟨gb252, 3, none⟩ = some (.slice Ao17 t260.length co17) ∧ w'.cell? ⟨gb252, 4, none⟩ = some (.slice Ao19 t263.length co19) ∧ w'.cell? (ad277.add ((x9_1).toNat * 5)) = some (.int .i64 ((rd_T26 t254 x9_1).f0.f0)) ∧ w'.cell? ⟨(ad277.add ((x9_1).toNat * 5)).block, (ad277.add ((x9_1).toNat * 5)).off + 1, none⟩ = some (.string ((rd_T26 t254 x9_1).f0.f1)) ∧ w'.cell? ⟨(ad277.add ((x9_1).toNat * 5)).block, (ad277.add ((x9_1).toNat * 5)).off + 2, none⟩ = some (.string ((rd_T26 t254 x9_1).f1)) ∧ w'.cell? ⟨(ad277.add ((x9_1).toNat * 5)).block, (ad277.add ((x9_1).toNat * 5)).off + 3, none⟩ = some (.slice A277_3 ((rd_T26 t254 x9_1).f2).length c277_3) ∧ w'.cell? ⟨(ad277.add ((x9_1).toNat * 5)).block, (ad277.add ((x9_1).toNat * 5)).off + 4, none⟩ = some (.slice A277_4 ((rd_T26 t254 x9_1).f3).length c277_4) ∧ w'.cell? (ad277.add ((x9_1).toNat * 5)) = some (.int .i64 ((rd_T26 t254 x9_1).f0.f0)) ∧ w'.cell? ⟨(ad277.add ((x9_1).toNat * 5)).block, (ad277.add ((x9_1).toNat * 5)).off + 1, none⟩ = some (.string ((rd_T26 t254 x9_1).f0.f1)) ∧ w'.cell? ⟨(ad277.add ((x9_1).toNat * 5)).block, (ad277.add ((x9_1).toNat * 5)).off + 2, none⟩ = some (.string ((rd_T26 t254 x9_1).f1)) ∧ w'.cell? ⟨(ad277.add ((x9_1).toNat * 5)).block, (ad277.add ((x9_1).toNat * 5)).off + 3, none⟩ = some (.slice A279_3 ((rd_T26 t254 x9_1).f2).length c279_3) ∧ w'.cell? ⟨(ad277.add ((x9_1).toNat * 5)).block, (ad277.add ((x9_1).toNat * 5)).off + 4, none⟩ = some (.slice A279_4 ((rd_T26 t254 x9_1).f3).length c279_4) ∧ w'.cell? (ad277.add ((t275).toNat * 5)) = some (.int .i64 ((rd_T26 t254 t275).f0.f0)) ∧ w'.cell? ⟨(ad277.add ((t275).toNat * 5)).block, (ad277.add ((t275).toNat * 5)).off + 1, none⟩ = some (.string ((rd_T26 t254 t275).f0.f1)) ∧ w'.cell? ⟨(ad277.add ((t275).toNat * 5)).block, (ad277.add ((t275).toNat * 5)).off + 2, none⟩ = some (.string ((rd_T26 t254 t275).f1)) ∧ w'.cell? ⟨(ad277.add ((t275).toNat * 5)).block, (ad277.add ((t275).toNat * 5)).off + 3, none⟩ = some (.slice A280_3 ((rd_T26 t254 t275).f2).length c280_3) ∧ w'.cell? ⟨(ad277.add ((t275).toNat * 5)).block, (ad277.add ((t275).toNat * 5)).off + 4, none⟩ = some (.slice A280_4 ((rd_T26 t254 t275).f3).length c280_4)) (ds := []) #[false, false, false, false, false, false, false, false, false, false, false, false, false, false, false, false, false, false, false, false, false, false, false, false, false, false, false, false, false, false, false, false] kr_ rfl rfl ⟨(blk_cell BK252.out 0).trans rfl, (blk_cell BK252.out 1).trans rfl, (blk_cell BK252.out 2).trans rfl, (blk_cell BK252.out 3).trans rfl, (blk_cell BK252.out 4).trans rfl, hx277_0, hx277_1, hx277_2, hx277_3, hx277_4, hx279_0, hx279_1, hx279_2, hx279_3, hx279_4, hx280_0, hx280_1, hx280_2, hx280_3, hx280_4⟩ (fun hHeld => ?_); refine with_tabW tolllaw06_RuleFirst_g1.tab6 tolllaw06_RuleFirst_g1.bits6 (fun HT_ HW_ => ?_)
            generalize wr.drew = w43 at HO_0 HO_253003 HO_253004 HO_254003 HO_254004 BK252 BK253 HB HL277_3 HL277_4 HL279_3 HL279_4 HL280_3 HL280_4 HR277_3 HR277_4 HR279_3 HR279_4 HR280_3 HR280_4 hx277_0 hx277_1 hx277_2 hx277_3 hx277_4 hx279_0 hx279_1 hx279_2 hx279_3 hx279_4 hx280_0 hx280_1 hx280_2 hx280_3 hx280_4 hHeld ⊢
            refine pure_ (i := 0) (N := some 31) (v := ?_) (a' := ?_) #[true, false, false, false, false, false, false, false, false, false, false, false, false, false, false, false, false, false, false, false, false, false, false, false, false, false, false, false, false, false, false, false] rfl rfl (any_of HT_.out kr_) (fun _ _ _ h => h) (Or.inl ⟨by rfl, ?_⟩) ?_ ?_
            rotate_left
            ·intro w'
             go_simp
             with_reducible rfl
            rotate_left
            ·simp only [Act.put, sx_, s0_, s1_, i64_w, i32_w]
             rfl
            refine pure_ (i := 1) (N := some 32) (v := ?_) (a' := ?_) #[true, true, false, false, false, false, false, false, false, false, false, false, false, false, false, false, false, false, false, false, false, false, false, false, false, false, false, false, false, false, false, false] rfl rfl (any_of HT_.out kr_) (fun _ _ _ h => h) (Or.inl ⟨by rfl, ?_⟩) ?_ ?_
            rotate_left
            ·intro w'
             go_simp
             with_reducible rfl
            rotate_left
            ·simp only [Act.put, sx_, s0_, s1_, i64_w, i32_w]
             rfl
            refine pure_ (i := 2) (N := some 33) (v := ?_) (a' := ?_) #[true, true, true, false, false, false, false, false, false, false, false, false, false, false, false, false, false, false, false, false, false, false, false, false, false, false, false, false, false, false, false, false] rfl rfl (any_of HT_.out kr_) (fun _ _ _ h => h) (Or.inl ⟨by rfl, ?_⟩) ?_ ?_
            rotate_left
            ·intro w'
             go_simp
             with_reducible rfl
            rotate_left
            ·simp only [Act.put, sx_, s0_, s1_, i64_w, i32_w]
             rfl
            refine take_ (i := 3) (N := some 34) (v := ?_) (a' := ?_) #[true, true, true, true, false, false, false, false, false, false, false, false, false, false, false, false, false, false, false, false, false, false, false, false, false, false, false, false, false, false, false, false] rfl rfl (take_ofW HT_.out HW_.out kr_) (fun _ _ _ h => h) (Or.inl ⟨by rfl, ?_⟩) hHeld ?_ ?_
            rotate_left
            ·rintro w' ⟨s0, s1, s2, s3, s4, s5, s6, s7, s8, s9, s10, s11, s12, s13, s14, s15, s16, s17, s18, s19⟩
             go_simp
             with_reducible rfl
            rotate_left
            ·simp only [Act.put, sx_, s0_, s1_, i64_w, i32_w]
             rfl
            refine take_ (i := 4) (N := some 35) (v := ?_) (a' := ?_) #[true, true, true, true, true, false, false, false, false, false, false, false, false, false, false, false, false, false, false, false, false, false, false, false, false, false, false, false, false, false, false, false] rfl rfl (take_ofW HT_.out HW_.out kr_) (fun _ _ _ h => h) (Or.inl ⟨by rfl, ?_⟩) hHeld ?_ ?_
            rotate_left
            ·rintro w' ⟨s0, s1, s2, s3, s4, s5, s6, s7, s8, s9, s10, s11, s12, s13, s14, s15, s16, s17, s18, s19⟩
             go_simp
             with_reducible rfl
            rotate_left
            ·simp only [Act.put, sx_, s0_, s1_, i64_w, i32_w]
             rfl
            refine one_ (i := 5) (N := some 36) #[true, true, true, true, true, true, false, false, false, false, false, false, false, false, false, false, false, false, false, false, false, false, false, false, false, false, false, false, false, false, false, false] rfl rfl (one_of HT_.out kr_) (by decide) (fun K hK => ?_)
            refine goes_ Tryd.func14 kr_ rfl #[.agg #[.int .i64 ((rd_T26 t254 x9_1).f0.f0), .string ((rd_T26 t254 x9_1).f0.f1), .string ((rd_T26 t254 x9_1).f1), .slice A277_3 ((rd_T26 t254 x9_1).f2).length c277_3, .slice A277_4 ((rd_T26 t254 x9_1).f3).length c277_4], .agg #[.string t257, .string t258, .string t259, .slice Ao17 t260.length co17, .slice Ao19 t263.length co19]] (by rfl) rfl rfl rl_ ?_
            with_reducible refine (rule_Holds.calls k1 ((rd_T26 t254 x9_1).f0.f0) ((rd_T26 t254 x9_1).f0.f1) ((rd_T26 t254 x9_1).f1) _ _ ((rd_T26 t254 x9_1).f2) _ _ ((rd_T26 t254 x9_1).f3) t257 t258 t259 _ _ t260 _ _ t263 true _ ?side1 ?side2 ?side3 ?side4 ?side5 ?side6 ?side7 ?side8 A34.out).mono ?_
            (case side1 => repeat (first | exact (by repeat (first | (with_reducible exact HR277_3.out) | (with_reducible refine Kd.C_alloc ?_ _) | (with_reducible refine Kd.C_drewN ?_ _) | (with_reducible refine Kd.C_drew ?_) | exact HR277_3.out)) | (with_reducible refine Kd.C_alloc ?_ _) | (with_reducible refine Kd.C_drewN ?_ _) | (with_reducible refine Kd.C_drew ?_)))
            (case side2 => exact HC277_3.out)
            (case side3 => repeat (first | exact (by repeat (first | (with_reducible exact HR277_4.out) | (with_reducible refine Kd.C_alloc ?_ _) | (with_reducible refine Kd.C_drewN ?_ _) | (with_reducible refine Kd.C_drew ?_) | exact HR277_4.out)) | (with_reducible refine Kd.C_alloc ?_ _) | (with_reducible refine Kd.C_drewN ?_ _) | (with_reducible refine Kd.C_drew ?_)))
            (case side4 => exact HC277_4.out)
            (case side5 => exact C_ (Kd.R_reads' HO_253003.out).2.2)
            (case side6 => exact (Kd.R_reads' HO_253003.out).2.1)
            (case side7 => exact C_ (Kd.R_reads' HO_253004.out).2.2)
            (case side8 => exact (Kd.R_reads' HO_253004.out).2.1)
            rintro e w44 ⟨rfl, hb⟩
            have HS5_ := (hb.cell (World.block_lt_of_cell? _ _ (hHeld.2.2.2.2.2.1))).trans (hHeld.2.2.2.2.2.1)
            have HS6_ := (hb.cell (World.block_lt_of_cell? _ _ (hHeld.2.2.2.2.2.2.1))).trans (hHeld.2.2.2.2.2.2.1)
            have HS7_ := (hb.cell (World.block_lt_of_cell? _ _ (hHeld.2.2.2.2.2.2.2.1))).trans (hHeld.2.2.2.2.2.2.2.1)
            have HS8_ := (hb.cell (World.block_lt_of_cell? _ _ (hHeld.2.2.2.2.2.2.2.2.1))).trans (hHeld.2.2.2.2.2.2.2.2.1)
            have HS9_ := (hb.cell (World.block_lt_of_cell? _ _ (hHeld.2.2.2.2.2.2.2.2.2.1))).trans (hHeld.2.2.2.2.2.2.2.2.2.1)
            have HS10_ := (hb.cell (World.block_lt_of_cell? _ _ (hHeld.2.2.2.2.2.2.2.2.2.2.1))).trans (hHeld.2.2.2.2.2.2.2.2.2.2.1)
            have HS11_ := (hb.cell (World.block_lt_of_cell? _ _ (hHeld.2.2.2.2.2.2.2.2.2.2.2.1))).trans (hHeld.2.2.2.2.2.2.2.2.2.2.2.1)
            have HS12_ := (hb.cell (World.block_lt_of_cell? _ _ (hHeld.2.2.2.2.2.2.2.2.2.2.2.2.1))).trans (hHeld.2.2.2.2.2.2.2.2.2.2.2.2.1)
            have HS13_ := (hb.cell (World.block_lt_of_cell? _ _ (hHeld.2.2.2.2.2.2.2.2.2.2.2.2.2.1))).trans (hHeld.2.2.2.2.2.2.2.2.2.2.2.2.2.1)
            have HS14_ := (hb.cell (World.block_lt_of_cell? _ _ (hHeld.2.2.2.2.2.2.2.2.2.2.2.2.2.2.1))).trans (hHeld.2.2.2.2.2.2.2.2.2.2.2.2.2.2.1)
            have HS15_ := (hb.cell (World.block_lt_of_cell? _ _ (hHeld.2.2.2.2.2.2.2.2.2.2.2.2.2.2.2.1))).trans (hHeld.2.2.2.2.2.2.2.2.2.2.2.2.2.2.2.1)
            have HS16_ := (hb.cell (World.block_lt_of_cell? _ _ (hHeld.2.2.2.2.2.2.2.2.2.2.2.2.2.2.2.2.1))).trans (hHeld.2.2.2.2.2.2.2.2.2.2.2.2.2.2.2.2.1)
            have HS17_ := (hb.cell (World.block_lt_of_cell? _ _ (hHeld.2.2.2.2.2.2.2.2.2.2.2.2.2.2.2.2.2.1))).trans (hHeld.2.2.2.2.2.2.2.2.2.2.2.2.2.2.2.2.2.1)
            have HS18_ := (hb.cell (World.block_lt_of_cell? _ _ (hHeld.2.2.2.2.2.2.2.2.2.2.2.2.2.2.2.2.2.2.1))).trans (hHeld.2.2.2.2.2.2.2.2.2.2.2.2.2.2.2.2.2.2.1)
            have HS19_ := (hb.cell (World.block_lt_of_cell? _ _ (hHeld.2.2.2.2.2.2.2.2.2.2.2.2.2.2.2.2.2.2.2))).trans (hHeld.2.2.2.2.2.2.2.2.2.2.2.2.2.2.2.2.2.2.2)
            refine ⟨_, rfl, ?_⟩
            have n0_ := am_ (Kd.N_below (N_ HO_0.out) hb)
            have n1_ := am_ (Kd.R_below (R_ HO_253003.out) hb)
            have n2_ := am_ (Kd.R_below (R_ HO_253004.out) hb)
            have n3_ := am_ (Kd.R_below (R_ HO_254003.out) hb)
            have n4_ := am_ (Kd.R_below (R_ HO_254004.out) hb)
            have n5_ := am_ (Kd.V_below (by (with_reducible repeat (first | apply Kd.V_alloc | apply Kd.V_drewN | apply Kd.V_drew)); exact HL277_3.out) hb)
            have n6_ := am_ (Kd.V_below (by (with_reducible repeat (first | apply Kd.V_alloc | apply Kd.V_drewN | apply Kd.V_drew)); exact HL277_4.out) hb)
            have n7_ := am_ (blk_below (g := gb252) (o := .cells #[.string t257, .string t258, .string t259, .slice Ao17 t260.length co17, .slice Ao19 t263.length co19] 28 (0, 0)) (blk_ BK252.out) hb)
            have n8_ := am_ (blk_below (g := gb253) (o := .cells #[.int .i64 t266, .string t267, .string t268, .slice Ao24 t269.length co24, .slice Ao26 t272.length co26] 26 (0, 0)) (blk_ BK253.out) hb)
            have n9_ := am_ (Kd.C_below (by repeat (first | (with_reducible exact HR277_3.out) | (with_reducible refine Kd.C_alloc ?_ _) | (with_reducible refine Kd.C_drewN ?_ _) | (with_reducible refine Kd.C_drew ?_) | exact HR277_3.out)) hb)
            have n10_ := am_ (Kd.C_below (by repeat (first | (with_reducible exact HR277_4.out) | (with_reducible refine Kd.C_alloc ?_ _) | (with_reducible refine Kd.C_drewN ?_ _) | (with_reducible refine Kd.C_drew ?_) | exact HR277_4.out)) hb)
            have n11_ := am_ (below_step (bel_ HB.out) hb)
            (try have HL279_3 := am_ (Kd.V_below (by (with_reducible repeat (first | apply Kd.V_alloc | apply Kd.V_drewN | apply Kd.V_drew)); exact HL279_3.out) hb))
            (try have HL279_4 := am_ (Kd.V_below (by (with_reducible repeat (first | apply Kd.V_alloc | apply Kd.V_drewN | apply Kd.V_drew)); exact HL279_4.out) hb))
            (try have HL280_3 := am_ (Kd.V_below (by (with_reducible repeat (first | apply Kd.V_alloc | apply Kd.V_drewN | apply Kd.V_drew)); exact HL280_3.out) hb))
            (try have HL280_4 := am_ (Kd.V_below (by (with_reducible repeat (first | apply Kd.V_alloc | apply Kd.V_drewN | apply Kd.V_drew)); exact HL280_4.out) hb))
            (try have HR279_3 := am_ (Kd.C_below (by (with_reducible repeat (first | refine Kd.C_alloc ?_ _ | refine Kd.C_drewN ?_ _ | refine Kd.C_drew ?_)); with_reducible exact HR279_3.out) hb))
            (try have HR279_4 := am_ (Kd.C_below (by (with_reducible repeat (first | refine Kd.C_alloc ?_ _ | refine Kd.C_drewN ?_ _ | refine Kd.C_drew ?_)); with_reducible exact HR279_4.out) hb))
            (try have HR280_3 := am_ (Kd.C_below (by (with_reducible repeat (first | refine Kd.C_alloc ?_ _ | refine Kd.C_drewN ?_ _ | refine Kd.C_drew ?_)); with_reducible exact HR280_3.out) hb))
            (try have HR280_4 := am_ (Kd.C_below (by (with_reducible repeat (first | refine Kd.C_alloc ?_ _ | refine Kd.C_drewN ?_ _ | refine Kd.C_drew ?_)); with_reducible exact HR280_4.out) hb))
            clear HO_0 HO_253003 HO_253004 HO_254003 HO_254004 HL277_3 HL277_4 BK252 BK253 HR277_3 HR277_4 HB
            have HO_0 := n0_
            have HO_253003 := n1_
            have HO_253004 := n2_
            have HO_254003 := n3_
            have HO_254004 := n4_
            have HL277_3 := n5_
            have HL277_4 := n6_
            have BK252 := n7_
            have BK253 := n8_
            have HR277_3 := n9_
            have HR277_4 := n10_
            have HB := n11_
            clear n0_ n1_ n2_ n3_ n4_ n5_ n6_ n7_ n8_ n9_ n10_ n11_
            (try clear hb)
            (try clear hb2)
            (try clear hk)
            (try clear hi)
            refine hK.out _ _ ⟨(blk_cell BK252.out 0).trans rfl, (blk_cell BK252.out 1).trans rfl, (blk_cell BK252.out 2).trans rfl, (blk_cell BK252.out 3).trans rfl, (blk_cell BK252.out 4).trans rfl, HS5_, HS6_, HS7_, HS8_, HS9_, HS10_, HS11_, HS12_, HS13_, HS14_, HS15_, HS16_, HS17_, HS18_, HS19_⟩ (fun hHeld => ?_)
            clear hK K
            refine norm_ (a' := ?_) ?_ ?_
            rotate_left
            ·show Act.put _ (some 36) _ = _
             simp only [Act.put, sx_, s0_, s1_, i64_w, i32_w]
             rfl
            refine pure_ (i := 6) (N := some 37) (v := ?_) (a' := ?_) #[true, true, true, true, true, true, true, false, false, false, false, false, false, false, false, false, false, false, false, false, false, false, false, false, false, false, false, false, false, false, false, false] rfl rfl (any_of HT_.out kr_) (fun _ _ _ h => h) (Or.inl ⟨by rfl, ?_⟩) ?_ ?_
            rotate_left
            ·intro w'
             go_simp
             with_reducible rfl
            rotate_left
            ·simp only [Act.put, sx_, s0_, s1_, i64_w, i32_w]
             rfl
            refine pure_ (i := 7) (N := some 38) (v := ?_) (a' := ?_) #[true, true, true, true, true, true, true, true, false, false, false, false, false, false, false, false, false, false, false, false, false, false, false, false, false, false, false, false, false, false, false, false] rfl rfl (any_of HT_.out kr_) (fun _ _ _ h => h) (Or.inl ⟨by rfl, ?_⟩) ?_ ?_
            rotate_left
            ·intro w'
             go_simp
             with_reducible rfl
            rotate_left
            ·simp only [Act.put, sx_, s0_, s1_, i64_w, i32_w]
             rfl
            refine pure_ (i := 8) (N := some 39) (v := ?_) (a' := ?_) #[true, true, true, true, true, true, true, true, true, false, false, false, false, false, false, false, false, false, false, false, false, false, false, false, false, false, false, false, false, false, false, false] rfl rfl (any_of HT_.out kr_) (fun _ _ _ h => h) (Or.inl ⟨by rfl, ?_⟩) ?_ ?_
            rotate_left
            ·intro w'
             go_simp
             with_reducible rfl
            rotate_left
            ·simp only [Act.put, sx_, s0_, s1_, i64_w, i32_w]
             rfl
            refine pure_ (i := 9) (N := some 40) (v := ?_) (a' := ?_) #[true, true, true, true, true, true, true, true, true, true, false, false, false, false, false, false, false, false, false, false, false, false, false, false, false, false, false, false, false, false, false, false] rfl rfl (any_of HT_.out kr_) (fun _ _ _ h => h) (Or.inl ⟨by rfl, ?_⟩) ?_ ?_
            rotate_left
            ·intro w'
             go_simp
             with_reducible rfl
            rotate_left
            ·simp only [Act.put, sx_, s0_, s1_, i64_w, i32_w]
             rfl
            refine pure_ (i := 10) (N := some 41) (v := ?_) (a' := ?_) #[true, true, true, true, true, true, true, true, true, true, true, false, false, false, false, false, false, false, false, false, false, false, false, false, false, false, false, false, false, false, false, false] rfl rfl (any_of HT_.out kr_) (fun _ _ _ h => h) (Or.inl ⟨by rfl, ?_⟩) ?_ ?_
            rotate_left
            ·intro w'
             go_simp
             with_reducible rfl
            rotate_left
            ·simp only [Act.put, sx_, s0_, s1_, i64_w, i32_w]
             rfl
            refine pure_ (i := 11) (N := some 42) (v := ?_) (a' := ?_) #[true, true, true, true, true, true, true, true, true, true, true, true, false, false, false, false, false, false, false, false, false, false, false, false, false, false, false, false, false, false, false, false] rfl rfl (any_of HT_.out kr_) (fun _ _ _ h => h) (Or.inl ⟨by rfl, ?_⟩) ?_ ?_
            rotate_left
            ·intro w'
             go_simp
             with_reducible rfl
            rotate_left
            ·simp only [Act.put, sx_, s0_, s1_, i64_w, i32_w]
             rfl
            refine pure_ (i := 12) (N := some 43) (v := ?_) (a' := ?_) #[true, true, true, true, true, true, true, true, true, true, true, true, true, false, false, false, false, false, false, false, false, false, false, false, false, false, false, false, false, false, false, false] rfl rfl (any_of HT_.out kr_) (fun _ _ _ h => h) (Or.inl ⟨by rfl, ?_⟩) ?_ ?_
            rotate_left
            ·intro w'
             go_simp
             with_reducible rfl
            rotate_left
            ·simp only [Act.put, sx_, s0_, s1_, i64_w, i32_w]
             rfl
            refine pure_ (i := 13) (N := some 44) (v := ?_) (a' := ?_) #[true, true, true, true, true, true, true, true, true, true, true, true, true, true, false, false, false, false, false, false, false, false, false, false, false, false, false, false, false, false, false, false] rfl rfl (any_of HT_.out kr_) (fun _ _ _ h => h) (Or.inl ⟨by rfl, ?_⟩) ?_ ?_
            rotate_left
            ·intro w'
             go_simp
             with_reducible rfl
            rotate_left
            ·simp only [Act.put, sx_, s0_, s1_, i64_w, i32_w]
             rfl
            refine pure_ (i := 14) (N := some 45) (v := ?_) (a' := ?_) #[true, true, true, true, true, true, true, true, true, true, true, true, true, true, true, false, false, false, false, false, false, false, false, false, false, false, false, false, false, false, false, false] rfl rfl (any_of HT_.out kr_) (fun _ _ _ h => h) (Or.inl ⟨by rfl, ?_⟩) ?_ ?_
            rotate_left
            ·intro w'
             go_simp
             with_reducible rfl
            rotate_left
            ·simp only [Act.put, sx_, s0_, s1_, i64_w, i32_w]
             rfl
            refine pure_ (i := 15) (N := some 46) (v := ?_) (a' := ?_) #[true, true, true, true, true, true, true, true, true, true, true, true, true, true, true, true, false, false, false, false, false, false, false, false, false, false, false, false, false, false, false, false] rfl rfl (any_of HT_.out kr_) (fun _ _ _ h => h) (Or.inl ⟨by rfl, ?_⟩) ?_ ?_
            rotate_left
            ·intro w'
             go_simp
             with_reducible rfl
            rotate_left
            ·simp only [Act.put, sx_, s0_, s1_, i64_w, i32_w]
             rfl
            refine pure_ (i := 16) (N := some 47) (v := ?_) (a' := ?_) #[true, true, true, true, true, true, true, true, true, true, true, true, true, true, true, true, true, false, false, false, false, false, false, false, false, false, false, false, false, false, false, false] rfl rfl (any_of HT_.out kr_) (fun _ _ _ h => h) (Or.inl ⟨by rfl, ?_⟩) ?_ ?_
            rotate_left
            ·intro w'
             go_simp
             with_reducible rfl
            rotate_left
            ·simp only [Act.put, sx_, s0_, s1_, i64_w, i32_w]
             rfl
            refine pure_ (i := 17) (N := some 48) (v := ?_) (a' := ?_) #[true, true, true, true, true, true, true, true, true, true, true, true, true, true, true, true, true, true, false, false, false, false, false, false, false, false, false, false, false, false, false, false] rfl rfl (any_of HT_.out kr_) (fun _ _ _ h => h) (Or.inl ⟨by rfl, ?_⟩) ?_ ?_
            rotate_left
            ·intro w'
             go_simp
             with_reducible rfl
            rotate_left
            ·simp only [Act.put, sx_, s0_, s1_, i64_w, i32_w]
             rfl
            refine pure_ (i := 18) (N := some 49) (v := ?_) (a' := ?_) #[true, true, true, true, true, true, true, true, true, true, true, true, true, true, true, true, true, true, true, false, false, false, false, false, false, false, false, false, false, false, false, false] rfl rfl (any_of HT_.out kr_) (fun _ _ _ h => h) (Or.inl ⟨by rfl, ?_⟩) ?_ ?_
            rotate_left
            ·intro w'
             go_simp
             with_reducible rfl
            rotate_left
            ·simp only [Act.put, sx_, s0_, s1_, i64_w, i32_w]
             rfl
            refine pure_ (i := 19) (N := some 50) (v := ?_) (a' := ?_) #[true, true, true, true, true, true, true, true, true, true, true, true, true, true, true, true, true, true, true, true, false, false, false, false, false, false, false, false, false, false, false, false] rfl rfl (any_of HT_.out kr_) (fun _ _ _ h => h) (Or.inl ⟨by rfl, ?_⟩) ?_ ?_
            rotate_left
            ·intro w'
             go_simp
             with_reducible rfl
            rotate_left
            ·simp only [Act.put, sx_, s0_, s1_, i64_w, i32_w]
             rfl
            refine pure_ (i := 20) (N := some 51) (v := ?_) (a' := ?_) #[true, true, true, true, true, true, true, true, true, true, true, true, true, true, true, true, true, true, true, true, true, false, false, false, false, false, false, false, false, false, false, false] rfl rfl (any_of HT_.out kr_) (fun _ _ _ h => h) (Or.inl ⟨by rfl, ?_⟩) ?_ ?_
            rotate_left
            ·intro w'
             go_simp
             with_reducible rfl
            rotate_left
            ·simp only [Act.put, sx_, s0_, s1_, i64_w, i32_w]
             rfl
            refine pure_ (i := 21) (N := some 52) (v := ?_) (a' := ?_) #[true, true, true, true, true, true, true, true, true, true, true, true, true, true, true, true, true, true, true, true, true, true, false, false, false, false, false, false, false, false, false, false] rfl rfl (any_of HT_.out kr_) (fun _ _ _ h => h) (Or.inl ⟨by rfl, ?_⟩) ?_ ?_
            rotate_left
            ·intro w'
             go_simp
             with_reducible rfl
            rotate_left
            ·simp only [Act.put, sx_, s0_, s1_, i64_w, i32_w]
             rfl
            refine pure_ (i := 22) (N := some 53) (v := ?_) (a' := ?_) #[true, true, true, true, true, true, true, true, true, true, true, true, true, true, true, true, true, true, true, true, true, true, true, false, false, false, false, false, false, false, false, false] rfl rfl (any_of HT_.out kr_) (fun _ _ _ h => h) (Or.inl ⟨by rfl, ?_⟩) ?_ ?_
            rotate_left
            ·intro w'
             go_simp
             with_reducible rfl
            rotate_left
            ·simp only [Act.put, sx_, s0_, s1_, i64_w, i32_w]
             rfl
            refine pure_ (i := 24) (N := some 55) (v := ?_) (a' := ?_) #[true, true, true, true, true, true, true, true, true, true, true, true, true, true, true, true, true, true, true, true, true, true, true, false, true, false, false, false, false, false, false, false] rfl rfl (any_of HT_.out kr_) (fun _ _ _ h => h) (Or.inl ⟨by rfl, ?_⟩) ?_ ?_
            rotate_left
            ·intro w'
             go_simp
             with_reducible rfl
            rotate_left
            ·simp only [Act.put, sx_, s0_, s1_, i64_w, i32_w]
             rfl
            refine pure_ (i := 25) (N := some 56) (v := ?_) (a' := ?_) #[true, true, true, true, true, true, true, true, true, true, true, true, true, true, true, true, true, true, true, true, true, true, true, false, true, true, false, false, false, false, false, false] rfl rfl (any_of HT_.out kr_) (fun _ _ _ h => h) (Or.inl ⟨by rfl, ?_⟩) ?_ ?_
            rotate_left
            ·intro w'
             go_simp
             with_reducible rfl
            rotate_left
            ·simp only [Act.put, sx_, s0_, s1_, i64_w, i32_w]
             rfl
            refine pure_ (i := 26) (N := some 57) (v := ?_) (a' := ?_) #[true, true, true, true, true, true, true, true, true, true, true, true, true, true, true, true, true, true, true, true, true, true, true, false, true, true, true, false, false, false, false, false] rfl rfl (any_of HT_.out kr_) (fun _ _ _ h => h) (Or.inl ⟨by rfl, ?_⟩) ?_ ?_
            rotate_left
            ·intro w'
             go_simp
             with_reducible rfl
            rotate_left
            ·simp only [Act.put, sx_, s0_, s1_, i64_w, i32_w]
             rfl
            refine take_ (i := 23) (N := some 54) (v := ?_) (a' := ?_) #[true, true, true, true, true, true, true, true, true, true, true, true, true, true, true, true, true, true, true, true, true, true, true, true, true, true, true, false, false, false, false, false] rfl rfl (take_ofW HT_.out HW_.out kr_) (fun _ _ _ h => h) (Or.inl ⟨by rfl, ?_⟩) hHeld ?_ ?_
            rotate_left
            ·rintro w' ⟨s0, s1, s2, s3, s4, s5, s6, s7, s8, s9, s10, s11, s12, s13, s14, s15, s16, s17, s18, s19⟩
             go_simp
             with_reducible rfl
            rotate_left
            ·simp only [Act.put, sx_, s0_, s1_, i64_w, i32_w]
             rfl
            refine take_ (i := 27) (N := some 58) (v := ?_) (a' := ?_) #[true, true, true, true, true, true, true, true, true, true, true, true, true, true, true, true, true, true, true, true, true, true, true, true, true, true, true, true, false, false, false, false] rfl rfl (take_ofW HT_.out HW_.out kr_) (fun _ _ _ h => h) (Or.inl ⟨by rfl, ?_⟩) hHeld ?_ ?_
            rotate_left
            ·rintro w' ⟨s0, s1, s2, s3, s4, s5, s6, s7, s8, s9, s10, s11, s12, s13, s14, s15, s16, s17, s18, s19⟩
             go_simp
             with_reducible rfl
            rotate_left
            ·simp only [Act.put, sx_, s0_, s1_, i64_w, i32_w]
             rfl
            refine one_ (i := 28) (N := some 59) #[true, true, true, true, true, true, true, true, true, true, true, true, true, true, true, true, true, true, true, true, true, true, true, true, true, true, true, true, true, false, false, false] rfl rfl (one_of HT_.out kr_) (by decide) (fun K hK => ?_)
            refine goes_ Tryd.func19 kr_ rfl #[.agg #[.int .i64 ((rd_T26 t254 x9_1).f0.f0), .string ((rd_T26 t254 x9_1).f0.f1), .string ((rd_T26 t254 x9_1).f1), .slice A277_3 ((rd_T26 t254 x9_1).f2).length c277_3, .slice A277_4 ((rd_T26 t254 x9_1).f3).length c277_4], .agg #[.int .i64 ((rd_T26 t254 t275).f0.f0), .string ((rd_T26 t254 t275).f0.f1), .string ((rd_T26 t254 t275).f1), .slice A280_3 ((rd_T26 t254 t275).f2).length c280_3, .slice A280_4 ((rd_T26 t254 t275).f3).length c280_4]] (by rfl) rfl rfl rl_ ?_
            with_reducible refine (rule_Order.calls ((rd_T26 t254 x9_1).f0.f0) ((rd_T26 t254 x9_1).f0.f1) ((rd_T26 t254 x9_1).f1) _ _ ((rd_T26 t254 x9_1).f2) _ _ ((rd_T26 t254 x9_1).f3) ((rd_T26 t254 t275).f0.f0) ((rd_T26 t254 t275).f0.f1) ((rd_T26 t254 t275).f1) _ _ ((rd_T26 t254 t275).f2) _ _ ((rd_T26 t254 t275).f3) t281 _ ?side1 ?side2 ?side3 ?side4 ?side5 ?side6 ?side7 ?side8 A41.out).mono ?_
            (case side1 => repeat (first | exact (by repeat (first | (with_reducible exact HR277_3.out) | (with_reducible refine Kd.C_alloc ?_ _) | (with_reducible refine Kd.C_drewN ?_ _) | (with_reducible refine Kd.C_drew ?_) | exact HR277_3.out)) | (with_reducible refine Kd.C_alloc ?_ _) | (with_reducible refine Kd.C_drewN ?_ _) | (with_reducible refine Kd.C_drew ?_)))
            (case side2 => exact HC277_3.out)
            (case side3 => repeat (first | exact (by repeat (first | (with_reducible exact HR277_4.out) | (with_reducible refine Kd.C_alloc ?_ _) | (with_reducible refine Kd.C_drewN ?_ _) | (with_reducible refine Kd.C_drew ?_) | exact HR277_4.out)) | (with_reducible refine Kd.C_alloc ?_ _) | (with_reducible refine Kd.C_drewN ?_ _) | (with_reducible refine Kd.C_drew ?_)))
            (case side4 => exact HC277_4.out)
            (case side5 => repeat (first | exact (by repeat (first | (with_reducible exact HR280_3.out) | (with_reducible refine Kd.C_alloc ?_ _) | (with_reducible refine Kd.C_drewN ?_ _) | (with_reducible refine Kd.C_drew ?_) | exact HR280_3.out)) | (with_reducible refine Kd.C_alloc ?_ _) | (with_reducible refine Kd.C_drewN ?_ _) | (with_reducible refine Kd.C_drew ?_)))
            (case side6 => exact HC280_3.out)
            (case side7 => repeat (first | exact (by repeat (first | (with_reducible exact HR280_4.out) | (with_reducible refine Kd.C_alloc ?_ _) | (with_reducible refine Kd.C_drewN ?_ _) | (with_reducible refine Kd.C_drew ?_) | exact HR280_4.out)) | (with_reducible refine Kd.C_alloc ?_ _) | (with_reducible refine Kd.C_drewN ?_ _) | (with_reducible refine Kd.C_drew ?_)))
            (case side8 => exact HC280_4.out)
            rintro e w45 ⟨rfl, hb⟩
            have HS5_ := (hb.cell (World.block_lt_of_cell? _ _ (hHeld.2.2.2.2.2.1))).trans (hHeld.2.2.2.2.2.1)
            have HS6_ := (hb.cell (World.block_lt_of_cell? _ _ (hHeld.2.2.2.2.2.2.1))).trans (hHeld.2.2.2.2.2.2.1)
            have HS7_ := (hb.cell (World.block_lt_of_cell? _ _ (hHeld.2.2.2.2.2.2.2.1))).trans (hHeld.2.2.2.2.2.2.2.1)
            have HS8_ := (hb.cell (World.block_lt_of_cell? _ _ (hHeld.2.2.2.2.2.2.2.2.1))).trans (hHeld.2.2.2.2.2.2.2.2.1)
            have HS9_ := (hb.cell (World.block_lt_of_cell? _ _ (hHeld.2.2.2.2.2.2.2.2.2.1))).trans (hHeld.2.2.2.2.2.2.2.2.2.1)
            have HS10_ := (hb.cell (World.block_lt_of_cell? _ _ (hHeld.2.2.2.2.2.2.2.2.2.2.1))).trans (hHeld.2.2.2.2.2.2.2.2.2.2.1)
            have HS11_ := (hb.cell (World.block_lt_of_cell? _ _ (hHeld.2.2.2.2.2.2.2.2.2.2.2.1))).trans (hHeld.2.2.2.2.2.2.2.2.2.2.2.1)
            have HS12_ := (hb.cell (World.block_lt_of_cell? _ _ (hHeld.2.2.2.2.2.2.2.2.2.2.2.2.1))).trans (hHeld.2.2.2.2.2.2.2.2.2.2.2.2.1)
            have HS13_ := (hb.cell (World.block_lt_of_cell? _ _ (hHeld.2.2.2.2.2.2.2.2.2.2.2.2.2.1))).trans (hHeld.2.2.2.2.2.2.2.2.2.2.2.2.2.1)
            have HS14_ := (hb.cell (World.block_lt_of_cell? _ _ (hHeld.2.2.2.2.2.2.2.2.2.2.2.2.2.2.1))).trans (hHeld.2.2.2.2.2.2.2.2.2.2.2.2.2.2.1)
            have HS15_ := (hb.cell (World.block_lt_of_cell? _ _ (hHeld.2.2.2.2.2.2.2.2.2.2.2.2.2.2.2.1))).trans (hHeld.2.2.2.2.2.2.2.2.2.2.2.2.2.2.2.1)
            have HS16_ := (hb.cell (World.block_lt_of_cell? _ _ (hHeld.2.2.2.2.2.2.2.2.2.2.2.2.2.2.2.2.1))).trans (hHeld.2.2.2.2.2.2.2.2.2.2.2.2.2.2.2.2.1)
            have HS17_ := (hb.cell (World.block_lt_of_cell? _ _ (hHeld.2.2.2.2.2.2.2.2.2.2.2.2.2.2.2.2.2.1))).trans (hHeld.2.2.2.2.2.2.2.2.2.2.2.2.2.2.2.2.2.1)
            have HS18_ := (hb.cell (World.block_lt_of_cell? _ _ (hHeld.2.2.2.2.2.2.2.2.2.2.2.2.2.2.2.2.2.2.1))).trans (hHeld.2.2.2.2.2.2.2.2.2.2.2.2.2.2.2.2.2.2.1)
            have HS19_ := (hb.cell (World.block_lt_of_cell? _ _ (hHeld.2.2.2.2.2.2.2.2.2.2.2.2.2.2.2.2.2.2.2))).trans (hHeld.2.2.2.2.2.2.2.2.2.2.2.2.2.2.2.2.2.2.2)
            refine ⟨_, rfl, ?_⟩
            have n0_ := am_ (Kd.N_below (N_ HO_0.out) hb)
            have n1_ := am_ (Kd.R_below (R_ HO_253003.out) hb)
            have n2_ := am_ (Kd.R_below (R_ HO_253004.out) hb)
            have n3_ := am_ (Kd.R_below (R_ HO_254003.out) hb)
            have n4_ := am_ (Kd.R_below (R_ HO_254004.out) hb)
            have n5_ := am_ (Kd.V_below (by (with_reducible repeat (first | apply Kd.V_alloc | apply Kd.V_drewN | apply Kd.V_drew)); exact HL277_3.out) hb)
            have n6_ := am_ (Kd.V_below (by (with_reducible repeat (first | apply Kd.V_alloc | apply Kd.V_drewN | apply Kd.V_drew)); exact HL277_4.out) hb)
            have n7_ := am_ (Kd.V_below (by (with_reducible repeat (first | apply Kd.V_alloc | apply Kd.V_drewN | apply Kd.V_drew)); exact HL279_3.out) hb)
            have n8_ := am_ (Kd.V_below (by (with_reducible repeat (first | apply Kd.V_alloc | apply Kd.V_drewN | apply Kd.V_drew)); exact HL279_4.out) hb)
            have n9_ := am_ (Kd.V_below (by (with_reducible repeat (first | apply Kd.V_alloc | apply Kd.V_drewN | apply Kd.V_drew)); exact HL280_3.out) hb)
            have n10_ := am_ (Kd.V_below (by (with_reducible repeat (first | apply Kd.V_alloc | apply Kd.V_drewN | apply Kd.V_drew)); exact HL280_4.out) hb)
            have n11_ := am_ (blk_below (g := gb252) (o := .cells #[.string t257, .string t258, .string t259, .slice Ao17 t260.length co17, .slice Ao19 t263.length co19] 28 (0, 0)) (blk_ BK252.out) hb)
            have n12_ := am_ (blk_below (g := gb253) (o := .cells #[.int .i64 t266, .string t267, .string t268, .slice Ao24 t269.length co24, .slice Ao26 t272.length co26] 26 (0, 0)) (blk_ BK253.out) hb)
            have n13_ := am_ (Kd.C_below (by repeat (first | (with_reducible exact HR277_3.out) | (with_reducible refine Kd.C_alloc ?_ _) | (with_reducible refine Kd.C_drewN ?_ _) | (with_reducible refine Kd.C_drew ?_) | exact HR277_3.out)) hb)
            have n14_ := am_ (Kd.C_below (by repeat (first | (with_reducible exact HR277_4.out) | (with_reducible refine Kd.C_alloc ?_ _) | (with_reducible refine Kd.C_drewN ?_ _) | (with_reducible refine Kd.C_drew ?_) | exact HR277_4.out)) hb)
            have n15_ := am_ (Kd.C_below (by repeat (first | (with_reducible exact HR279_3.out) | (with_reducible refine Kd.C_alloc ?_ _) | (with_reducible refine Kd.C_drewN ?_ _) | (with_reducible refine Kd.C_drew ?_) | exact HR279_3.out)) hb)
            have n16_ := am_ (Kd.C_below (by repeat (first | (with_reducible exact HR279_4.out) | (with_reducible refine Kd.C_alloc ?_ _) | (with_reducible refine Kd.C_drewN ?_ _) | (with_reducible refine Kd.C_drew ?_) | exact HR279_4.out)) hb)
            have n17_ := am_ (Kd.C_below (by repeat (first | (with_reducible exact HR280_3.out) | (with_reducible refine Kd.C_alloc ?_ _) | (with_reducible refine Kd.C_drewN ?_ _) | (with_reducible refine Kd.C_drew ?_) | exact HR280_3.out)) hb)
            have n18_ := am_ (Kd.C_below (by repeat (first | (with_reducible exact HR280_4.out) | (with_reducible refine Kd.C_alloc ?_ _) | (with_reducible refine Kd.C_drewN ?_ _) | (with_reducible refine Kd.C_drew ?_) | exact HR280_4.out)) hb)
            have n19_ := am_ (below_step (bel_ HB.out) hb)
            clear HO_0 HO_253003 HO_253004 HO_254003 HO_254004 HL277_3 HL277_4 HL279_3 HL279_4 HL280_3 HL280_4 BK252 BK253 HR277_3 HR277_4 HR279_3 HR279_4 HR280_3 HR280_4 HB
            have HO_0 := n0_
            have HO_253003 := n1_
            have HO_253004 := n2_
            have HO_254003 := n3_
            have HO_254004 := n4_
            have HL277_3 := n5_
            have HL277_4 := n6_
            have HL279_3 := n7_
            have HL279_4 := n8_
            have HL280_3 := n9_
            have HL280_4 := n10_
            have BK252 := n11_
            have BK253 := n12_
            have HR277_3 := n13_
            have HR277_4 := n14_
            have HR279_3 := n15_
            have HR279_4 := n16_
            have HR280_3 := n17_
            have HR280_4 := n18_
            have HB := n19_
            clear n0_ n1_ n2_ n3_ n4_ n5_ n6_ n7_ n8_ n9_ n10_ n11_ n12_ n13_ n14_ n15_ n16_ n17_ n18_ n19_
            (try clear hb)
            (try clear hb2)
            (try clear hk)
            (try clear hi)
            refine hK.out _ _ ⟨(blk_cell BK252.out 0).trans rfl, (blk_cell BK252.out 1).trans rfl, (blk_cell BK252.out 2).trans rfl, (blk_cell BK252.out 3).trans rfl, (blk_cell BK252.out 4).trans rfl, HS5_, HS6_, HS7_, HS8_, HS9_, HS10_, HS11_, HS12_, HS13_, HS14_, HS15_, HS16_, HS17_, HS18_, HS19_⟩ (fun hHeld => ?_)
            clear hK K
            refine norm_ (a' := ?_) ?_ ?_
            rotate_left
            ·show Act.put _ (some 59) _ = _
             simp only [Act.put, sx_, s0_, s1_, i64_w, i32_w]
             rfl
            refine pure_ (i := 29) (N := some 60) (v := ?_) (a' := ?_) #[true, true, true, true, true, true, true, true, true, true, true, true, true, true, true, true, true, true, true, true, true, true, true, true, true, true, true, true, true, true, false, false] rfl rfl (any_of HT_.out kr_) (fun _ _ _ h => h) (Or.inl ⟨by rfl, ?_⟩) ?_ ?_
            rotate_left
            ·intro w'
             go_simp
             with_reducible rfl
            rotate_left
            ·simp only [Act.put, sx_, s0_, s1_, i64_w, i32_w]
             rfl
            refine pure_ (i := 30) (N := some 61) (v := ?_) (a' := ?_) #[true, true, true, true, true, true, true, true, true, true, true, true, true, true, true, true, true, true, true, true, true, true, true, true, true, true, true, true, true, true, true, false] rfl rfl (any_of HT_.out kr_) (fun _ _ _ h => h) (Or.inl ⟨by rfl, ?_⟩) ?_ ?_
            rotate_left
            ·intro w'
             go_simp
             with_reducible rfl
            rotate_left
            ·simp only [Act.put, sx_, s0_, s1_, i64_w, i32_w]
             rfl
            refine pure_ (i := 31) (N := some 62) (v := ?_) (a' := ?_) #[true, true, true, true, true, true, true, true, true, true, true, true, true, true, true, true, true, true, true, true, true, true, true, true, true, true, true, true, true, true, true, true] rfl rfl (any_of HT_.out kr_) (fun _ _ _ h => h) (Or.inl ⟨by rfl, ?_⟩) ?_ ?_
            rotate_left
            ·intro w'
             go_simp
             with_reducible rfl
            rotate_left
            ·simp only [Act.put, sx_, s0_, s1_, i64_w, i32_w]
             rfl
            refine done_ (done_of HT_.out kr_) ?_
            try go_wp2
            go_roundg k1
            case measure => have := HK1.out; omega
            case rel => exact ⟨(wrap64 (x9_1 + 1)), sd_, H', ⟨by have := HK1.out; omega⟩, ⟨by (with_reducible repeat (first | apply Kd.N_alloc | apply Kd.N_drewN | apply Kd.N_drew)); exact HO_0.out⟩, ⟨by (with_reducible repeat (first | apply Kd.R_alloc | apply Kd.R_drewN | apply Kd.R_drew)); exact HO_253003.out⟩, ⟨by (with_reducible repeat (first | apply Kd.R_alloc | apply Kd.R_drewN | apply Kd.R_drew)); exact HO_253004.out⟩, ⟨by (with_reducible repeat (first | apply Kd.R_alloc | apply Kd.R_drewN | apply Kd.R_drew)); exact HO_254003.out⟩, ⟨by (with_reducible repeat (first | apply Kd.R_alloc | apply Kd.R_drewN | apply Kd.R_drew)); exact HO_254004.out⟩, ⟨by (with_reducible repeat (first | refine blk_drewN ?_ _ | refine blk_drew ?_ | refine blk_alloc ?_ _)); exact BK252.out⟩, ⟨by (with_reducible repeat (first | refine blk_drewN ?_ _ | refine blk_drew ?_ | refine blk_alloc ?_ _)); exact BK253.out⟩, ⟨bel_ HB.out⟩⟩
          ·rw [if_neg c40] at H
           exact absurd H (by simp)
         ·rw [if_neg c39] at H
          exact absurd H (by simp)
      ·replace c36 := Bool.eq_false_iff.mpr c36
       subst c36
       have H1 : (none) = some r := by rw [if_neg (show ¬ (false = true) by decide)] at H; exact H
       clear H
       have H := H1
       clear H1
       exact absurd H (by simp)
     ·replace c35 := Bool.eq_false_iff.mpr c35
      subst c35
      have H1 : (tolllaw06_RuleFirst_g1.l0 k1 t254 t275 t276 (wrap64 (x9_1 + 1)) t257 t258 t259 t260 t263 t266 t267 t268 t269 t272) = some r := by rw [if_neg (show ¬ (false = true) by decide)] at H; exact H
      clear H
      have H := H1
      clear H1
      have H' := Aside0.mk H
      clear H
      try go_wp2
      have n0_ := am_ (Kd.N_drew HO_0.out)
      have n1_ := am_ (Kd.R_drew HO_253003.out)
      have n2_ := am_ (Kd.R_drew HO_253004.out)
      have n3_ := am_ (Kd.R_drew HO_254003.out)
      have n4_ := am_ (Kd.R_drew HO_254004.out)
      have n5_ := am_ (blk_drew BK252.out)
      have n6_ := am_ (blk_drew BK253.out)
      have n7_ := am_ (below_drew1 HB.out)
      clear HO_0 HO_253003 HO_253004 HO_254003 HO_254004 BK252 BK253 HB
      have HO_0 := n0_
      have HO_253003 := n1_
      have HO_253004 := n2_
      have HO_254003 := n3_
      have HO_254004 := n4_
      have BK252 := n5_
      have BK253 := n6_
      have HB := n7_
      clear n0_ n1_ n2_ n3_ n4_ n5_ n6_ n7_
      have p277 : 0 ≤ (x9_1 : Int) := of_decide_eq_true as_
      have q277 : x9_1 < (t254.length : Int) := of_decide_eq_true as_
      obtain ⟨ad277, A277_3, c277_3, A277_4, c277_4, e277, hx277_0, hx277_1, hx277_2, hx277_3, hx277_4, hl277_3, hi277_3, hl277_4, hi277_4⟩ := at_T26 (Kd.N_reads' HO_0.out).2.2 x9_1 p277 q277
      cases e277
      obtain ⟨ce277, hce277, hMe277, hcc277⟩ := Kd.N_get HO_0.out z26 x9_1 p277 (by first | exact q277 | exact of_decide_eq_true as_ | (have e_ := (Kd.N_reads' HO_0.out).1; omega))
      obtain ⟨ua277_3, uc277_3, ua277_4, uc277_4, rfl, ul277_3, ge277_3, ul277_4, ge277_4⟩ := k26_openF hMe277
      have hv277_3 := hcc277 3 _ rfl
      rw [add_field _ _ 3 (by omega)] at hv277_3
      replace hv277_3 := Option.some.inj (hv277_3.symm.trans hx277_3)
      injection hv277_3 with hva_ hvn_ hvc_
      rw [hva_] at ge277_3
      rw [hvc_] at ul277_3
      have HL277_3 := am_ (show Kd.V k49 49 _ w.heap.size _ _ ((rd_T26 t254 x9_1).f2) from Kd.V_mk ul277_3 ge277_3)
      clear hva_ hvn_ hvc_ ge277_3 ul277_3
      have hv277_4 := hcc277 4 _ rfl
      rw [add_field _ _ 4 (by omega)] at hv277_4
      replace hv277_4 := Option.some.inj (hv277_4.symm.trans hx277_4)
      injection hv277_4 with hva_ hvn_ hvc_
      rw [hva_] at ge277_4
      rw [hvc_] at ul277_4
      have HL277_4 := am_ (show Kd.V k49 49 _ w.heap.size _ _ ((rd_T26 t254 x9_1).f3) from Kd.V_mk ul277_4 ge277_4)
      clear hva_ hvn_ hvc_ ge277_4 ul277_4 hcc277 hce277
      have HR277_3 := Aside0.mk hi277_3
      have HC277_3 := Aside0.mk hl277_3
      clear hi277_3 hl277_3
      have HR277_4 := Aside0.mk hi277_4
      have HC277_4 := Aside0.mk hl277_4
      clear hi277_4 hl277_4
      replace p277 := eq_true p277
      replace q277 := eq_true q277
      refine start_ (n := 32) (S := fun w' => w'.cell? ⟨gb252, 0, none⟩ = some (.string t257) ∧ w'.cell? ⟨gb252, 1, none⟩ = some (.string t258) ∧ w'.cell? ⟨gb252, 2, none⟩ = some (.string t259) ∧ w'.cell? ⟨gb252, 3, none⟩ = some (.slice Ao17 t260.length co17) ∧ w'.cell? ⟨gb252, 4, none⟩ = some (.slice Ao19 t263.length co19) ∧ w'.cell? (ad277.add ((x9_1).toNat * 5)) = some (.int .i64 ((rd_T26 t254 x9_1).f0.f0)) ∧ w'.cell? ⟨(ad277.add ((x9_1).toNat * 5)).block, (ad277.add ((x9_1).toNat * 5)).off + 1, none⟩ = some (.string ((rd_T26 t254 x9_1).f0.f1)) ∧ w'.cell? ⟨(ad277.add ((x9_1).toNat * 5)).block, (ad277.add ((x9_1).toNat * 5)).off + 2, none⟩ = some (.string ((rd_T26 t254 x9_1).f1)) ∧ w'.cell? ⟨(ad277.add ((x9_1).toNat * 5)).block, (ad277.add ((x9_1).toNat * 5)).off + 3, none⟩ = some (.slice A277_3 ((rd_T26 t254 x9_1).f2).length c277_3) ∧ w'.cell? ⟨(ad277.add ((x9_1).toNat * 5)).block, (ad277.add ((x9_1).toNat * 5)).off + 4, none⟩ = some (.slice A277_4 ((rd_T26 t254 x9_1).f3).length c277_4)) (ds := []) #[false, false, false, false, false, false, false, false, false, false, false, false, false, false, false, false, false, false, false, false, false, false, false, false, false, false, false, false, false, false, false, false] kr_ rfl rfl ⟨(blk_cell BK252.out 0).trans rfl, (blk_cell BK252.out 1).trans rfl, (blk_cell BK252.out 2).trans rfl, (blk_cell BK252.out 3).trans rfl, (blk_cell BK252.out 4).trans rfl, hx277_0, hx277_1, hx277_2, hx277_3, hx277_4⟩ (fun hHeld => ?_); refine with_tabW tolllaw06_RuleFirst_g1.tab6 tolllaw06_RuleFirst_g1.bits6 (fun HT_ HW_ => ?_)
      generalize wr.drew = w46 at HO_0 HO_253003 HO_253004 HO_254003 HO_254004 BK252 BK253 HB HL277_3 HL277_4 HR277_3 HR277_4 hx277_0 hx277_1 hx277_2 hx277_3 hx277_4 hHeld ⊢
      refine pure_ (i := 0) (N := some 31) (v := ?_) (a' := ?_) #[true, false, false, false, false, false, false, false, false, false, false, false, false, false, false, false, false, false, false, false, false, false, false, false, false, false, false, false, false, false, false, false] rfl rfl (any_of HT_.out kr_) (fun _ _ _ h => h) (Or.inl ⟨by rfl, ?_⟩) ?_ ?_
      rotate_left
      ·intro w'
       go_simp
       with_reducible rfl
      rotate_left
      ·simp only [Act.put, sx_, s0_, s1_, i64_w, i32_w]
       rfl
      refine pure_ (i := 1) (N := some 32) (v := ?_) (a' := ?_) #[true, true, false, false, false, false, false, false, false, false, false, false, false, false, false, false, false, false, false, false, false, false, false, false, false, false, false, false, false, false, false, false] rfl rfl (any_of HT_.out kr_) (fun _ _ _ h => h) (Or.inl ⟨by rfl, ?_⟩) ?_ ?_
      rotate_left
      ·intro w'
       go_simp
       with_reducible rfl
      rotate_left
      ·simp only [Act.put, sx_, s0_, s1_, i64_w, i32_w]
       rfl
      refine pure_ (i := 2) (N := some 33) (v := ?_) (a' := ?_) #[true, true, true, false, false, false, false, false, false, false, false, false, false, false, false, false, false, false, false, false, false, false, false, false, false, false, false, false, false, false, false, false] rfl rfl (any_of HT_.out kr_) (fun _ _ _ h => h) (Or.inl ⟨by rfl, ?_⟩) ?_ ?_
      rotate_left
      ·intro w'
       go_simp
       with_reducible rfl
      rotate_left
      ·simp only [Act.put, sx_, s0_, s1_, i64_w, i32_w]
       rfl
      refine take_ (i := 3) (N := some 34) (v := ?_) (a' := ?_) #[true, true, true, true, false, false, false, false, false, false, false, false, false, false, false, false, false, false, false, false, false, false, false, false, false, false, false, false, false, false, false, false] rfl rfl (take_ofW HT_.out HW_.out kr_) (fun _ _ _ h => h) (Or.inl ⟨by rfl, ?_⟩) hHeld ?_ ?_
      rotate_left
      ·rintro w' ⟨s0, s1, s2, s3, s4, s5, s6, s7, s8, s9⟩
       go_simp
       with_reducible rfl
      rotate_left
      ·simp only [Act.put, sx_, s0_, s1_, i64_w, i32_w]
       rfl
      refine take_ (i := 4) (N := some 35) (v := ?_) (a' := ?_) #[true, true, true, true, true, false, false, false, false, false, false, false, false, false, false, false, false, false, false, false, false, false, false, false, false, false, false, false, false, false, false, false] rfl rfl (take_ofW HT_.out HW_.out kr_) (fun _ _ _ h => h) (Or.inl ⟨by rfl, ?_⟩) hHeld ?_ ?_
      rotate_left
      ·rintro w' ⟨s0, s1, s2, s3, s4, s5, s6, s7, s8, s9⟩
       go_simp
       with_reducible rfl
      rotate_left
      ·simp only [Act.put, sx_, s0_, s1_, i64_w, i32_w]
       rfl
      refine one_ (i := 5) (N := some 36) #[true, true, true, true, true, true, false, false, false, false, false, false, false, false, false, false, false, false, false, false, false, false, false, false, false, false, false, false, false, false, false, false] rfl rfl (one_of HT_.out kr_) (by decide) (fun K hK => ?_)
      refine goes_ Tryd.func14 kr_ rfl #[.agg #[.int .i64 ((rd_T26 t254 x9_1).f0.f0), .string ((rd_T26 t254 x9_1).f0.f1), .string ((rd_T26 t254 x9_1).f1), .slice A277_3 ((rd_T26 t254 x9_1).f2).length c277_3, .slice A277_4 ((rd_T26 t254 x9_1).f3).length c277_4], .agg #[.string t257, .string t258, .string t259, .slice Ao17 t260.length co17, .slice Ao19 t263.length co19]] (by rfl) rfl rfl rl_ ?_
      with_reducible refine (rule_Holds.calls k1 ((rd_T26 t254 x9_1).f0.f0) ((rd_T26 t254 x9_1).f0.f1) ((rd_T26 t254 x9_1).f1) _ _ ((rd_T26 t254 x9_1).f2) _ _ ((rd_T26 t254 x9_1).f3) t257 t258 t259 _ _ t260 _ _ t263 false _ ?side1 ?side2 ?side3 ?side4 ?side5 ?side6 ?side7 ?side8 A34.out).mono ?_
      (case side1 => repeat (first | exact (by repeat (first | (with_reducible exact HR277_3.out) | (with_reducible refine Kd.C_alloc ?_ _) | (with_reducible refine Kd.C_drewN ?_ _) | (with_reducible refine Kd.C_drew ?_) | exact HR277_3.out)) | (with_reducible refine Kd.C_alloc ?_ _) | (with_reducible refine Kd.C_drewN ?_ _) | (with_reducible refine Kd.C_drew ?_)))
      (case side2 => exact HC277_3.out)
      (case side3 => repeat (first | exact (by repeat (first | (with_reducible exact HR277_4.out) | (with_reducible refine Kd.C_alloc ?_ _) | (with_reducible refine Kd.C_drewN ?_ _) | (with_reducible refine Kd.C_drew ?_) | exact HR277_4.out)) | (with_reducible refine Kd.C_alloc ?_ _) | (with_reducible refine Kd.C_drewN ?_ _) | (with_reducible refine Kd.C_drew ?_)))
      (case side4 => exact HC277_4.out)
      (case side5 => exact C_ (Kd.R_reads' HO_253003.out).2.2)
      (case side6 => exact (Kd.R_reads' HO_253003.out).2.1)
      (case side7 => exact C_ (Kd.R_reads' HO_253004.out).2.2)
      (case side8 => exact (Kd.R_reads' HO_253004.out).2.1)
      rintro e w47 ⟨rfl, hb⟩
      have HS5_ := (hb.cell (World.block_lt_of_cell? _ _ (hHeld.2.2.2.2.2.1))).trans (hHeld.2.2.2.2.2.1)
      have HS6_ := (hb.cell (World.block_lt_of_cell? _ _ (hHeld.2.2.2.2.2.2.1))).trans (hHeld.2.2.2.2.2.2.1)
      have HS7_ := (hb.cell (World.block_lt_of_cell? _ _ (hHeld.2.2.2.2.2.2.2.1))).trans (hHeld.2.2.2.2.2.2.2.1)
      have HS8_ := (hb.cell (World.block_lt_of_cell? _ _ (hHeld.2.2.2.2.2.2.2.2.1))).trans (hHeld.2.2.2.2.2.2.2.2.1)
      have HS9_ := (hb.cell (World.block_lt_of_cell? _ _ (hHeld.2.2.2.2.2.2.2.2.2))).trans (hHeld.2.2.2.2.2.2.2.2.2)
      refine ⟨_, rfl, ?_⟩
      have n0_ := am_ (Kd.N_below (N_ HO_0.out) hb)
      have n1_ := am_ (Kd.R_below (R_ HO_253003.out) hb)
      have n2_ := am_ (Kd.R_below (R_ HO_253004.out) hb)
      have n3_ := am_ (Kd.R_below (R_ HO_254003.out) hb)
      have n4_ := am_ (Kd.R_below (R_ HO_254004.out) hb)
      have n5_ := am_ (Kd.V_below (by (with_reducible repeat (first | apply Kd.V_alloc | apply Kd.V_drewN | apply Kd.V_drew)); exact HL277_3.out) hb)
      have n6_ := am_ (Kd.V_below (by (with_reducible repeat (first | apply Kd.V_alloc | apply Kd.V_drewN | apply Kd.V_drew)); exact HL277_4.out) hb)
      have n7_ := am_ (blk_below (g := gb252) (o := .cells #[.string t257, .string t258, .string t259, .slice Ao17 t260.length co17, .slice Ao19 t263.length co19] 28 (0, 0)) (blk_ BK252.out) hb)
      have n8_ := am_ (blk_below (g := gb253) (o := .cells #[.int .i64 t266, .string t267, .string t268, .slice Ao24 t269.length co24, .slice Ao26 t272.length co26] 26 (0, 0)) (blk_ BK253.out) hb)
      have n9_ := am_ (Kd.C_below (by repeat (first | (with_reducible exact HR277_3.out) | (with_reducible refine Kd.C_alloc ?_ _) | (with_reducible refine Kd.C_drewN ?_ _) | (with_reducible refine Kd.C_drew ?_) | exact HR277_3.out)) hb)
      have n10_ := am_ (Kd.C_below (by repeat (first | (with_reducible exact HR277_4.out) | (with_reducible refine Kd.C_alloc ?_ _) | (with_reducible refine Kd.C_drewN ?_ _) | (with_reducible refine Kd.C_drew ?_) | exact HR277_4.out)) hb)
      have n11_ := am_ (below_step (bel_ HB.out) hb)
      clear HO_0 HO_253003 HO_253004 HO_254003 HO_254004 HL277_3 HL277_4 BK252 BK253 HR277_3 HR277_4 HB
      have HO_0 := n0_
      have HO_253003 := n1_
      have HO_253004 := n2_
      have HO_254003 := n3_
      have HO_254004 := n4_
      have HL277_3 := n5_
      have HL277_4 := n6_
      have BK252 := n7_
      have BK253 := n8_
      have HR277_3 := n9_
      have HR277_4 := n10_
      have HB := n11_
      clear n0_ n1_ n2_ n3_ n4_ n5_ n6_ n7_ n8_ n9_ n10_ n11_
      (try clear hb)
      (try clear hb2)
      (try clear hk)
      (try clear hi)
      refine hK.out _ _ ⟨(blk_cell BK252.out 0).trans rfl, (blk_cell BK252.out 1).trans rfl, (blk_cell BK252.out 2).trans rfl, (blk_cell BK252.out 3).trans rfl, (blk_cell BK252.out 4).trans rfl, HS5_, HS6_, HS7_, HS8_, HS9_⟩ (fun hHeld => ?_)
      clear hK K
      refine norm_ (a' := ?_) ?_ ?_
      rotate_left
      ·show Act.put _ (some 36) _ = _
       simp only [Act.put, sx_, s0_, s1_, i64_w, i32_w]
       rfl
      refine pure_ (i := 6) (N := some 37) (v := ?_) (a' := ?_) #[true, true, true, true, true, true, true, false, false, false, false, false, false, false, false, false, false, false, false, false, false, false, false, false, false, false, false, false, false, false, false, false] rfl rfl (any_of HT_.out kr_) (fun _ _ _ h => h) (Or.inl ⟨by rfl, ?_⟩) ?_ ?_
      rotate_left
      ·intro w'
       go_simp
       with_reducible rfl
      rotate_left
      ·simp only [Act.put, sx_, s0_, s1_, i64_w, i32_w]
       rfl
      refine pure_ (i := 7) (N := some 38) (v := undef) (a' := ?_) #[true, true, true, true, true, true, true, true, false, false, false, false, false, false, false, false, false, false, false, false, false, false, false, false, false, false, false, false, false, false, false, false] rfl rfl (any_of HT_.out kr_) (fun _ _ _ h => h) (Or.inr ⟨by rfl, rfl⟩) ?_ ?_
      rotate_left
      ·simp only [Act.put, sx_, s0_, s1_, i64_w, i32_w]
       rfl
      refine pure_ (i := 8) (N := some 39) (v := undef) (a' := ?_) #[true, true, true, true, true, true, true, true, true, false, false, false, false, false, false, false, false, false, false, false, false, false, false, false, false, false, false, false, false, false, false, false] rfl rfl (any_of HT_.out kr_) (fun _ _ _ h => h) (Or.inr ⟨by rfl, rfl⟩) ?_ ?_
      rotate_left
      ·simp only [Act.put, sx_, s0_, s1_, i64_w, i32_w]
       rfl
      refine pure_ (i := 9) (N := some 40) (v := undef) (a' := ?_) #[true, true, true, true, true, true, true, true, true, true, false, false, false, false, false, false, false, false, false, false, false, false, false, false, false, false, false, false, false, false, false, false] rfl rfl (any_of HT_.out kr_) (fun _ _ _ h => h) (Or.inr ⟨by rfl, rfl⟩) ?_ ?_
      rotate_left
      ·simp only [Act.put, sx_, s0_, s1_, i64_w, i32_w]
       rfl
      refine pure_ (i := 10) (N := some 41) (v := undef) (a' := ?_) #[true, true, true, true, true, true, true, true, true, true, true, false, false, false, false, false, false, false, false, false, false, false, false, false, false, false, false, false, false, false, false, false] rfl rfl (any_of HT_.out kr_) (fun _ _ _ h => h) (Or.inr ⟨by rfl, rfl⟩) ?_ ?_
      rotate_left
      ·simp only [Act.put, sx_, s0_, s1_, i64_w, i32_w]
       rfl
      refine pure_ (i := 11) (N := some 42) (v := undef) (a' := ?_) #[true, true, true, true, true, true, true, true, true, true, true, true, false, false, false, false, false, false, false, false, false, false, false, false, false, false, false, false, false, false, false, false] rfl rfl (any_of HT_.out kr_) (fun _ _ _ h => h) (Or.inr ⟨by rfl, rfl⟩) ?_ ?_
      rotate_left
      ·simp only [Act.put, sx_, s0_, s1_, i64_w, i32_w]
       rfl
      refine pure_ (i := 12) (N := some 43) (v := undef) (a' := ?_) #[true, true, true, true, true, true, true, true, true, true, true, true, true, false, false, false, false, false, false, false, false, false, false, false, false, false, false, false, false, false, false, false] rfl rfl (any_of HT_.out kr_) (fun _ _ _ h => h) (Or.inr ⟨by rfl, rfl⟩) ?_ ?_
      rotate_left
      ·simp only [Act.put, sx_, s0_, s1_, i64_w, i32_w]
       rfl
      refine pure_ (i := 13) (N := some 44) (v := undef) (a' := ?_) #[true, true, true, true, true, true, true, true, true, true, true, true, true, true, false, false, false, false, false, false, false, false, false, false, false, false, false, false, false, false, false, false] rfl rfl (any_of HT_.out kr_) (fun _ _ _ h => h) (Or.inr ⟨by rfl, rfl⟩) ?_ ?_
      rotate_left
      ·simp only [Act.put, sx_, s0_, s1_, i64_w, i32_w]
       rfl
      refine pure_ (i := 14) (N := some 45) (v := undef) (a' := ?_) #[true, true, true, true, true, true, true, true, true, true, true, true, true, true, true, false, false, false, false, false, false, false, false, false, false, false, false, false, false, false, false, false] rfl rfl (any_of HT_.out kr_) (fun _ _ _ h => h) (Or.inr ⟨by rfl, rfl⟩) ?_ ?_
      rotate_left
      ·simp only [Act.put, sx_, s0_, s1_, i64_w, i32_w]
       rfl
      refine pure_ (i := 15) (N := some 46) (v := undef) (a' := ?_) #[true, true, true, true, true, true, true, true, true, true, true, true, true, true, true, true, false, false, false, false, false, false, false, false, false, false, false, false, false, false, false, false] rfl rfl (any_of HT_.out kr_) (fun _ _ _ h => h) (Or.inr ⟨by rfl, rfl⟩) ?_ ?_
      rotate_left
      ·simp only [Act.put, sx_, s0_, s1_, i64_w, i32_w]
       rfl
      refine pure_ (i := 16) (N := some 47) (v := undef) (a' := ?_) #[true, true, true, true, true, true, true, true, true, true, true, true, true, true, true, true, true, false, false, false, false, false, false, false, false, false, false, false, false, false, false, false] rfl rfl (any_of HT_.out kr_) (fun _ _ _ h => h) (Or.inr ⟨by rfl, rfl⟩) ?_ ?_
      rotate_left
      ·simp only [Act.put, sx_, s0_, s1_, i64_w, i32_w]
       rfl
      refine pure_ (i := 17) (N := some 48) (v := undef) (a' := ?_) #[true, true, true, true, true, true, true, true, true, true, true, true, true, true, true, true, true, true, false, false, false, false, false, false, false, false, false, false, false, false, false, false] rfl rfl (any_of HT_.out kr_) (fun _ _ _ h => h) (Or.inr ⟨by rfl, rfl⟩) ?_ ?_
      rotate_left
      ·simp only [Act.put, sx_, s0_, s1_, i64_w, i32_w]
       rfl
      refine pure_ (i := 18) (N := some 49) (v := undef) (a' := ?_) #[true, true, true, true, true, true, true, true, true, true, true, true, true, true, true, true, true, true, true, false, false, false, false, false, false, false, false, false, false, false, false, false] rfl rfl (any_of HT_.out kr_) (fun _ _ _ h => h) (Or.inr ⟨by rfl, rfl⟩) ?_ ?_
      rotate_left
      ·simp only [Act.put, sx_, s0_, s1_, i64_w, i32_w]
       rfl
      refine pure_ (i := 19) (N := some 50) (v := undef) (a' := ?_) #[true, true, true, true, true, true, true, true, true, true, true, true, true, true, true, true, true, true, true, true, false, false, false, false, false, false, false, false, false, false, false, false] rfl rfl (any_of HT_.out kr_) (fun _ _ _ h => h) (Or.inr ⟨by rfl, rfl⟩) ?_ ?_
      rotate_left
      ·simp only [Act.put, sx_, s0_, s1_, i64_w, i32_w]
       rfl
      refine pure_ (i := 20) (N := some 51) (v := undef) (a' := ?_) #[true, true, true, true, true, true, true, true, true, true, true, true, true, true, true, true, true, true, true, true, true, false, false, false, false, false, false, false, false, false, false, false] rfl rfl (any_of HT_.out kr_) (fun _ _ _ h => h) (Or.inr ⟨by rfl, rfl⟩) ?_ ?_
      rotate_left
      ·simp only [Act.put, sx_, s0_, s1_, i64_w, i32_w]
       rfl
      refine pure_ (i := 21) (N := some 52) (v := undef) (a' := ?_) #[true, true, true, true, true, true, true, true, true, true, true, true, true, true, true, true, true, true, true, true, true, true, false, false, false, false, false, false, false, false, false, false] rfl rfl (any_of HT_.out kr_) (fun _ _ _ h => h) (Or.inr ⟨by rfl, rfl⟩) ?_ ?_
      rotate_left
      ·simp only [Act.put, sx_, s0_, s1_, i64_w, i32_w]
       rfl
      refine pure_ (i := 22) (N := some 53) (v := undef) (a' := ?_) #[true, true, true, true, true, true, true, true, true, true, true, true, true, true, true, true, true, true, true, true, true, true, true, false, false, false, false, false, false, false, false, false] rfl rfl (any_of HT_.out kr_) (fun _ _ _ h => h) (Or.inr ⟨by rfl, rfl⟩) ?_ ?_
      rotate_left
      ·simp only [Act.put, sx_, s0_, s1_, i64_w, i32_w]
       rfl
      refine pure_ (i := 23) (N := some 54) (v := undef) (a' := ?_) #[true, true, true, true, true, true, true, true, true, true, true, true, true, true, true, true, true, true, true, true, true, true, true, true, false, false, false, false, false, false, false, false] rfl rfl (any_of HT_.out kr_) (fun _ _ _ h => h) (Or.inr ⟨by rfl, rfl⟩) ?_ ?_
      rotate_left
      ·simp only [Act.put, sx_, s0_, s1_, i64_w, i32_w]
       rfl
      refine pure_ (i := 24) (N := some 55) (v := undef) (a' := ?_) #[true, true, true, true, true, true, true, true, true, true, true, true, true, true, true, true, true, true, true, true, true, true, true, true, true, false, false, false, false, false, false, false] rfl rfl (any_of HT_.out kr_) (fun _ _ _ h => h) (Or.inr ⟨by rfl, rfl⟩) ?_ ?_
      rotate_left
      ·simp only [Act.put, sx_, s0_, s1_, i64_w, i32_w]
       rfl
      refine pure_ (i := 25) (N := some 56) (v := undef) (a' := ?_) #[true, true, true, true, true, true, true, true, true, true, true, true, true, true, true, true, true, true, true, true, true, true, true, true, true, true, false, false, false, false, false, false] rfl rfl (any_of HT_.out kr_) (fun _ _ _ h => h) (Or.inr ⟨by rfl, rfl⟩) ?_ ?_
      rotate_left
      ·simp only [Act.put, sx_, s0_, s1_, i64_w, i32_w]
       rfl
      refine pure_ (i := 26) (N := some 57) (v := undef) (a' := ?_) #[true, true, true, true, true, true, true, true, true, true, true, true, true, true, true, true, true, true, true, true, true, true, true, true, true, true, true, false, false, false, false, false] rfl rfl (any_of HT_.out kr_) (fun _ _ _ h => h) (Or.inr ⟨by rfl, rfl⟩) ?_ ?_
      rotate_left
      ·simp only [Act.put, sx_, s0_, s1_, i64_w, i32_w]
       rfl
      refine pure_ (i := 27) (N := some 58) (v := undef) (a' := ?_) #[true, true, true, true, true, true, true, true, true, true, true, true, true, true, true, true, true, true, true, true, true, true, true, true, true, true, true, true, false, false, false, false] rfl rfl (any_of HT_.out kr_) (fun _ _ _ h => h) (Or.inr ⟨by rfl, rfl⟩) ?_ ?_
      rotate_left
      ·simp only [Act.put, sx_, s0_, s1_, i64_w, i32_w]
       rfl
      refine pure_ (i := 28) (N := some 59) (v := undef) (a' := ?_) #[true, true, true, true, true, true, true, true, true, true, true, true, true, true, true, true, true, true, true, true, true, true, true, true, true, true, true, true, true, false, false, false] rfl rfl (any_of HT_.out kr_) (fun _ _ _ h => h) (Or.inr ⟨by rfl, rfl⟩) ?_ ?_
      rotate_left
      ·simp only [Act.put, sx_, s0_, s1_, i64_w, i32_w]
       rfl
      refine pure_ (i := 29) (N := some 60) (v := undef) (a' := ?_) #[true, true, true, true, true, true, true, true, true, true, true, true, true, true, true, true, true, true, true, true, true, true, true, true, true, true, true, true, true, true, false, false] rfl rfl (any_of HT_.out kr_) (fun _ _ _ h => h) (Or.inr ⟨by rfl, rfl⟩) ?_ ?_
      rotate_left
      ·simp only [Act.put, sx_, s0_, s1_, i64_w, i32_w]
       rfl
      refine pure_ (i := 30) (N := some 61) (v := undef) (a' := ?_) #[true, true, true, true, true, true, true, true, true, true, true, true, true, true, true, true, true, true, true, true, true, true, true, true, true, true, true, true, true, true, true, false] rfl rfl (any_of HT_.out kr_) (fun _ _ _ h => h) (Or.inr ⟨by rfl, rfl⟩) ?_ ?_
      rotate_left
      ·simp only [Act.put, sx_, s0_, s1_, i64_w, i32_w]
       rfl
      refine pure_ (i := 31) (N := some 62) (v := ?_) (a' := ?_) #[true, true, true, true, true, true, true, true, true, true, true, true, true, true, true, true, true, true, true, true, true, true, true, true, true, true, true, true, true, true, true, true] rfl rfl (any_of HT_.out kr_) (fun _ _ _ h => h) (Or.inl ⟨by rfl, ?_⟩) ?_ ?_
      rotate_left
      ·intro w'
       go_simp
       with_reducible rfl
      rotate_left
      ·simp only [Act.put, sx_, s0_, s1_, i64_w, i32_w]
       rfl
      refine done_ (done_of HT_.out kr_) ?_
      try go_wp2
      go_roundg k1
      case measure => have := HK1.out; omega
      case rel => exact ⟨(wrap64 (x9_1 + 1)), sd_, H', ⟨by have := HK1.out; omega⟩, ⟨by (with_reducible repeat (first | apply Kd.N_alloc | apply Kd.N_drewN | apply Kd.N_drew)); exact HO_0.out⟩, ⟨by (with_reducible repeat (first | apply Kd.R_alloc | apply Kd.R_drewN | apply Kd.R_drew)); exact HO_253003.out⟩, ⟨by (with_reducible repeat (first | apply Kd.R_alloc | apply Kd.R_drewN | apply Kd.R_drew)); exact HO_253004.out⟩, ⟨by (with_reducible repeat (first | apply Kd.R_alloc | apply Kd.R_drewN | apply Kd.R_drew)); exact HO_254003.out⟩, ⟨by (with_reducible repeat (first | apply Kd.R_alloc | apply Kd.R_drewN | apply Kd.R_drew)); exact HO_254004.out⟩, ⟨by (with_reducible repeat (first | refine blk_drewN ?_ _ | refine blk_drew ?_ | refine blk_alloc ?_ _)); exact BK252.out⟩, ⟨by (with_reducible repeat (first | refine blk_drewN ?_ _ | refine blk_drew ?_ | refine blk_alloc ?_ _)); exact BK253.out⟩, ⟨bel_ HB.out⟩⟩
    ·rw [if_neg c33] at H
     exact absurd H (by simp)
   ·rw [if_neg c32] at H
    have c32b0 : decide (x9_1 < (t254.length : Int)) = false := decide_eq_false c32
    clear c32
    by_cases c48 : t276 = true
    ·subst c48
     have H1 : (if t275 < 0 then (none) else (if t275 ≥ (t254.length : Int) then (none) else (if 0 ≤ t275 then (if t275 < (t254.length : Int) then ((rule_Holds.f k1 ((rd_T26 t254 t275).f0.f0) ((rd_T26 t254 t275).f0.f1) ((rd_T26 t254 t275).f1) ((rd_T26 t254 t275).f2) ((rd_T26 t254 t275).f3) t257 t258 t259 t260 t263).bind fun t284 => (tolllaw06_RuleFirst_g1.j1 k1 t254 t275 (!t284) t257 t258 t259 t260 t263 t266 t267 t268 t269 t272)) else (none)) else (none)))) = some r := by rw [if_pos rfl] at H; exact H
     clear H
     have H := H1
     clear H1
     have HC49 := Aside0.mk H
     clear H
     go_upto_region 10 with (fail)
     go_cut [86] (fun v86 wc => ∃ (kq : Nat) (x86_48 : Bool), v86 = .bool x86_48 ∧ Aside0 (tolllaw06_RuleFirst_g1.j1 kq t254 t275 x86_48 t257 t258 t259 t260 t263 t266 t267 t268 t269 t272 = some r) ∧ Aside0 (kq ≤ k1) ∧ Aside0 (Kd.N k26 26 wc w.heap.size (fun k_ => some k_ ≠ ((.slice Ao17 t260.length co17) : Value).ownBlock ∧ some k_ ≠ ((.slice Ao19 t263.length co19) : Value).ownBlock ∧ some k_ ≠ ((.slice Ao24 t269.length co24) : Value).ownBlock ∧ some k_ ≠ ((.slice Ao26 t272.length co26) : Value).ownBlock ∧ k_ ≠ gb252 ∧ k_ ≠ gb253) (.slice Ao30 t254.length co30) t254) ∧ Aside0 (Kd.R k49 49 wc w.heap.size (fun k_ => some k_ ≠ ((.slice Ao19 t263.length co19) : Value).ownBlock ∧ some k_ ≠ ((.slice Ao24 t269.length co24) : Value).ownBlock ∧ some k_ ≠ ((.slice Ao26 t272.length co26) : Value).ownBlock) (.slice Ao17 t260.length co17) t260) ∧ Aside0 (Kd.R k49 49 wc w.heap.size (fun k_ => some k_ ≠ ((.slice Ao17 t260.length co17) : Value).ownBlock ∧ some k_ ≠ ((.slice Ao24 t269.length co24) : Value).ownBlock ∧ some k_ ≠ ((.slice Ao26 t272.length co26) : Value).ownBlock) (.slice Ao19 t263.length co19) t263) ∧ Aside0 (Kd.R k49 49 wc w.heap.size (fun k_ => some k_ ≠ ((.slice Ao17 t260.length co17) : Value).ownBlock ∧ some k_ ≠ ((.slice Ao19 t263.length co19) : Value).ownBlock ∧ some k_ ≠ ((.slice Ao26 t272.length co26) : Value).ownBlock) (.slice Ao24 t269.length co24) t269) ∧ Aside0 (Kd.R k49 49 wc w.heap.size (fun k_ => some k_ ≠ ((.slice Ao17 t260.length co17) : Value).ownBlock ∧ some k_ ≠ ((.slice Ao19 t263.length co19) : Value).ownBlock ∧ some k_ ≠ ((.slice Ao24 t269.length co24) : Value).ownBlock) (.slice Ao26 t272.length co26) t272) ∧ Aside0 (wc.heap[gb252]? = some (.cells #[.string t257, .string t258, .string t259, (.slice Ao17 t260.length co17), (.slice Ao19 t263.length co19)] 28 (0, 0))) ∧ Aside0 (wc.heap[gb253]? = some (.cells #[.int .i64 t266, .string t267, .string t268, (.slice Ao24 t269.length co24), (.slice Ao26 t272.length co26)] 26 (0, 0))) ∧ Aside0 (Below w.heap.size w wc))
     case first =>
      have H := HC49.out
      clear HC49
      by_cases c50 : t275 < 0
      ·rw [if_pos c50] at H
       exact absurd H (by simp)
      ·rw [if_neg c50] at H
       have c50b0 : decide (t275 < 0) = false := decide_eq_false c50
       clear c50
       (first | rw [c50b0] | rw [c50b1] | rw [c50b2] | (simp only [i64_w, i32_w]; rw [c50b0]) | skip)
       by_cases c51 : t275 ≥ (t254.length : Int)
       ·rw [if_pos c51] at H
        exact absurd H (by simp)
       ·rw [if_neg c51] at H
        have c51b0 : decide ((t254.length : Int) ≤ t275) = false := decide_eq_false c51
        clear c51
        by_cases c52 : 0 ≤ t275
        ·rw [if_pos c52] at H
         have c52b0 : decide (0 ≤ t275) = true := decide_eq_true c52
         clear c52
         by_cases c53 : t275 < (t254.length : Int)
         ·rw [if_pos c53] at H
          have c53b0 : decide (t275 < (t254.length : Int)) = true := decide_eq_true c53
          clear c53
          replace H := Option.bind_eq_some_iff.mp H
          obtain ⟨t284, A540, H⟩ := H
          replace H : (tolllaw06_RuleFirst_g1.j1 k1 t254 t275 (!t284) t257 t258 t259 t260 t263 t266 t267 t268 t269 t272) = some r := H
          have A54 := Aside0.mk A540
          clear A540
          have H' := Aside0.mk H
          clear H
          try go_wp2
          have n0_ := am_ (Kd.N_drew HO_0.out)
          have n1_ := am_ (Kd.R_drew HO_253003.out)
          have n2_ := am_ (Kd.R_drew HO_253004.out)
          have n3_ := am_ (Kd.R_drew HO_254003.out)
          have n4_ := am_ (Kd.R_drew HO_254004.out)
          have n5_ := am_ (blk_drew BK252.out)
          have n6_ := am_ (blk_drew BK253.out)
          have n7_ := am_ (below_drew1 HB.out)
          clear HO_0 HO_253003 HO_253004 HO_254003 HO_254004 BK252 BK253 HB
          have HO_0 := n0_
          have HO_253003 := n1_
          have HO_253004 := n2_
          have HO_254003 := n3_
          have HO_254004 := n4_
          have BK252 := n5_
          have BK253 := n6_
          have HB := n7_
          clear n0_ n1_ n2_ n3_ n4_ n5_ n6_ n7_
          have p283 : 0 ≤ (t275 : Int) := of_decide_eq_true as_
          have q283 : t275 < (t254.length : Int) := of_decide_eq_true as_
          obtain ⟨ad283, A283_3, c283_3, A283_4, c283_4, e283, hx283_0, hx283_1, hx283_2, hx283_3, hx283_4, hl283_3, hi283_3, hl283_4, hi283_4⟩ := at_T26 (Kd.N_reads' HO_0.out).2.2 t275 p283 q283
          cases e283
          obtain ⟨ce283, hce283, hMe283, hcc283⟩ := Kd.N_get HO_0.out z26 t275 p283 (by first | exact q283 | exact of_decide_eq_true as_ | (have e_ := (Kd.N_reads' HO_0.out).1; omega))
          obtain ⟨ua283_3, uc283_3, ua283_4, uc283_4, rfl, ul283_3, ge283_3, ul283_4, ge283_4⟩ := k26_openF hMe283
          have hv283_3 := hcc283 3 _ rfl
          rw [add_field _ _ 3 (by omega)] at hv283_3
          replace hv283_3 := Option.some.inj (hv283_3.symm.trans hx283_3)
          injection hv283_3 with hva_ hvn_ hvc_
          rw [hva_] at ge283_3
          rw [hvc_] at ul283_3
          have HL283_3 := am_ (show Kd.V k49 49 _ w.heap.size _ _ ((rd_T26 t254 t275).f2) from Kd.V_mk ul283_3 ge283_3)
          clear hva_ hvn_ hvc_ ge283_3 ul283_3
          have hv283_4 := hcc283 4 _ rfl
          rw [add_field _ _ 4 (by omega)] at hv283_4
          replace hv283_4 := Option.some.inj (hv283_4.symm.trans hx283_4)
          injection hv283_4 with hva_ hvn_ hvc_
          rw [hva_] at ge283_4
          rw [hvc_] at ul283_4
          have HL283_4 := am_ (show Kd.V k49 49 _ w.heap.size _ _ ((rd_T26 t254 t275).f3) from Kd.V_mk ul283_4 ge283_4)
          clear hva_ hvn_ hvc_ ge283_4 ul283_4 hcc283 hce283
          have HR283_3 := Aside0.mk hi283_3
          have HC283_3 := Aside0.mk hl283_3
          clear hi283_3 hl283_3
          have HR283_4 := Aside0.mk hi283_4
          have HC283_4 := Aside0.mk hl283_4
          clear hi283_4 hl283_4
          replace p283 := eq_true p283
          replace q283 := eq_true q283
          refine start_ (n := 17) (S := fun w' => w'.cell? ⟨gb252, 0, none⟩ = some (.string t257) ∧ w'.cell? ⟨gb252, 1, none⟩ = some (.string t258) ∧ w'.cell? ⟨gb252, 2, none⟩ = some (.string t259) ∧ w'.cell? ⟨gb252, 3, none⟩ = some (.slice Ao17 t260.length co17) ∧ w'.cell? ⟨gb252, 4, none⟩ = some (.slice Ao19 t263.length co19) ∧ w'.cell? (ad283.add ((t275).toNat * 5)) = some (.int .i64 ((rd_T26 t254 t275).f0.f0)) ∧ w'.cell? ⟨(ad283.add ((t275).toNat * 5)).block, (ad283.add ((t275).toNat * 5)).off + 1, none⟩ = some (.string ((rd_T26 t254 t275).f0.f1)) ∧ w'.cell? ⟨(ad283.add ((t275).toNat * 5)).block, (ad283.add ((t275).toNat * 5)).off + 2, none⟩ = some (.string ((rd_T26 t254 t275).f1)) ∧ w'.cell? ⟨(ad283.add ((t275).toNat * 5)).block, (ad283.add ((t275).toNat * 5)).off + 3, none⟩ = some (.slice A283_3 ((rd_T26 t254 t275).f2).length c283_3) ∧ w'.cell? ⟨(ad283.add ((t275).toNat * 5)).block, (ad283.add ((t275).toNat * 5)).off + 4, none⟩ = some (.slice A283_4 ((rd_T26 t254 t275).f3).length c283_4)) (ds := []) #[false, false, false, false, false, false, false, false, false, false, false, false, false, false, false, false, false] kr_ rfl rfl ⟨(blk_cell BK252.out 0).trans rfl, (blk_cell BK252.out 1).trans rfl, (blk_cell BK252.out 2).trans rfl, (blk_cell BK252.out 3).trans rfl, (blk_cell BK252.out 4).trans rfl, hx283_0, hx283_1, hx283_2, hx283_3, hx283_4⟩ (fun hHeld => ?_); refine with_tabW tolllaw06_RuleFirst_g1.tab10 tolllaw06_RuleFirst_g1.bits10 (fun HT_ HW_ => ?_)
          generalize wr.drew = w55 at HO_0 HO_253003 HO_253004 HO_254003 HO_254004 BK252 BK253 HB HL283_3 HL283_4 HR283_3 HR283_4 hx283_0 hx283_1 hx283_2 hx283_3 hx283_4 hHeld ⊢
          refine pure_ (i := 0) (N := some 70) (v := ?_) (a' := ?_) #[true, false, false, false, false, false, false, false, false, false, false, false, false, false, false, false, false] rfl rfl (any_of HT_.out kr_) (fun _ _ _ h => h) (Or.inl ⟨by rfl, ?_⟩) ?_ ?_
          rotate_left
          ·intro w'
           go_simp
           with_reducible rfl
          rotate_left
          ·simp only [Act.put, sx_, s0_, s1_, i64_w, i32_w]
           rfl
          refine pure_ (i := 1) (N := some 71) (v := ?_) (a' := ?_) #[true, true, false, false, false, false, false, false, false, false, false, false, false, false, false, false, false] rfl rfl (any_of HT_.out kr_) (fun _ _ _ h => h) (Or.inl ⟨by rfl, ?_⟩) ?_ ?_
          rotate_left
          ·intro w'
           go_simp
           with_reducible rfl
          rotate_left
          ·simp only [Act.put, sx_, s0_, s1_, i64_w, i32_w]
           rfl
          refine pure_ (i := 2) (N := some 72) (v := ?_) (a' := ?_) #[true, true, true, false, false, false, false, false, false, false, false, false, false, false, false, false, false] rfl rfl (any_of HT_.out kr_) (fun _ _ _ h => h) (Or.inl ⟨by rfl, ?_⟩) ?_ ?_
          rotate_left
          ·intro w'
           go_simp
           with_reducible rfl
          rotate_left
          ·simp only [Act.put, sx_, s0_, s1_, i64_w, i32_w]
           rfl
          refine pure_ (i := 3) (N := some 73) (v := ?_) (a' := ?_) #[true, true, true, true, false, false, false, false, false, false, false, false, false, false, false, false, false] rfl rfl (any_of HT_.out kr_) (fun _ _ _ h => h) (Or.inl ⟨by rfl, ?_⟩) ?_ ?_
          rotate_left
          ·intro w'
           go_simp
           with_reducible rfl
          rotate_left
          ·simp only [Act.put, sx_, s0_, s1_, i64_w, i32_w]
           rfl
          refine pure_ (i := 4) (N := some 74) (v := ?_) (a' := ?_) #[true, true, true, true, true, false, false, false, false, false, false, false, false, false, false, false, false] rfl rfl (any_of HT_.out kr_) (fun _ _ _ h => h) (Or.inl ⟨by rfl, ?_⟩) ?_ ?_
          rotate_left
          ·intro w'
           go_simp
           with_reducible rfl
          rotate_left
          ·simp only [Act.put, sx_, s0_, s1_, i64_w, i32_w]
           rfl
          refine pure_ (i := 5) (N := some 75) (v := ?_) (a' := ?_) #[true, true, true, true, true, true, false, false, false, false, false, false, false, false, false, false, false] rfl rfl (any_of HT_.out kr_) (fun _ _ _ h => h) (Or.inl ⟨by rfl, ?_⟩) ?_ ?_
          rotate_left
          ·intro w'
           go_simp
           with_reducible rfl
          rotate_left
          ·simp only [Act.put, sx_, s0_, s1_, i64_w, i32_w]
           rfl
          refine pure_ (i := 6) (N := some 76) (v := ?_) (a' := ?_) #[true, true, true, true, true, true, true, false, false, false, false, false, false, false, false, false, false] rfl rfl (any_of HT_.out kr_) (fun _ _ _ h => h) (Or.inl ⟨by rfl, ?_⟩) ?_ ?_
          rotate_left
          ·intro w'
           go_simp
           with_reducible rfl
          rotate_left
          ·simp only [Act.put, sx_, s0_, s1_, i64_w, i32_w]
           rfl
          refine pure_ (i := 7) (N := some 77) (v := ?_) (a' := ?_) #[true, true, true, true, true, true, true, true, false, false, false, false, false, false, false, false, false] rfl rfl (any_of HT_.out kr_) (fun _ _ _ h => h) (Or.inl ⟨by rfl, ?_⟩) ?_ ?_
          rotate_left
          ·intro w'
           go_simp
           with_reducible rfl
          rotate_left
          ·simp only [Act.put, sx_, s0_, s1_, i64_w, i32_w]
           rfl
          refine pure_ (i := 8) (N := some 78) (v := ?_) (a' := ?_) #[true, true, true, true, true, true, true, true, true, false, false, false, false, false, false, false, false] rfl rfl (any_of HT_.out kr_) (fun _ _ _ h => h) (Or.inl ⟨by rfl, ?_⟩) ?_ ?_
          rotate_left
          ·intro w'
           go_simp
           with_reducible rfl
          rotate_left
          ·simp only [Act.put, sx_, s0_, s1_, i64_w, i32_w]
           rfl
          refine pure_ (i := 9) (N := some 79) (v := ?_) (a' := ?_) #[true, true, true, true, true, true, true, true, true, true, false, false, false, false, false, false, false] rfl rfl (any_of HT_.out kr_) (fun _ _ _ h => h) (Or.inl ⟨by rfl, ?_⟩) ?_ ?_
          rotate_left
          ·intro w'
           go_simp
           with_reducible rfl
          rotate_left
          ·simp only [Act.put, sx_, s0_, s1_, i64_w, i32_w]
           rfl
          refine pure_ (i := 10) (N := some 80) (v := ?_) (a' := ?_) #[true, true, true, true, true, true, true, true, true, true, true, false, false, false, false, false, false] rfl rfl (any_of HT_.out kr_) (fun _ _ _ h => h) (Or.inl ⟨by rfl, ?_⟩) ?_ ?_
          rotate_left
          ·intro w'
           go_simp
           with_reducible rfl
          rotate_left
          ·simp only [Act.put, sx_, s0_, s1_, i64_w, i32_w]
           rfl
          refine pure_ (i := 11) (N := some 81) (v := ?_) (a' := ?_) #[true, true, true, true, true, true, true, true, true, true, true, true, false, false, false, false, false] rfl rfl (any_of HT_.out kr_) (fun _ _ _ h => h) (Or.inl ⟨by rfl, ?_⟩) ?_ ?_
          rotate_left
          ·intro w'
           go_simp
           with_reducible rfl
          rotate_left
          ·simp only [Act.put, sx_, s0_, s1_, i64_w, i32_w]
           rfl
          refine take_ (i := 12) (N := some 82) (v := ?_) (a' := ?_) #[true, true, true, true, true, true, true, true, true, true, true, true, true, false, false, false, false] rfl rfl (take_ofW HT_.out HW_.out kr_) (fun _ _ _ h => h) (Or.inl ⟨by rfl, ?_⟩) hHeld ?_ ?_
          rotate_left
          ·rintro w' ⟨s0, s1, s2, s3, s4, s5, s6, s7, s8, s9⟩
           go_simp
           with_reducible rfl
          rotate_left
          ·simp only [Act.put, sx_, s0_, s1_, i64_w, i32_w]
           rfl
          refine take_ (i := 13) (N := some 83) (v := ?_) (a' := ?_) #[true, true, true, true, true, true, true, true, true, true, true, true, true, true, false, false, false] rfl rfl (take_ofW HT_.out HW_.out kr_) (fun _ _ _ h => h) (Or.inl ⟨by rfl, ?_⟩) hHeld ?_ ?_
          rotate_left
          ·rintro w' ⟨s0, s1, s2, s3, s4, s5, s6, s7, s8, s9⟩
           go_simp
           with_reducible rfl
          rotate_left
          ·simp only [Act.put, sx_, s0_, s1_, i64_w, i32_w]
           rfl
          refine one_ (i := 14) (N := some 84) #[true, true, true, true, true, true, true, true, true, true, true, true, true, true, true, false, false] rfl rfl (one_of HT_.out kr_) (by decide) (fun K hK => ?_)
          refine goes_ Tryd.func14 kr_ rfl #[.agg #[.int .i64 ((rd_T26 t254 t275).f0.f0), .string ((rd_T26 t254 t275).f0.f1), .string ((rd_T26 t254 t275).f1), .slice A283_3 ((rd_T26 t254 t275).f2).length c283_3, .slice A283_4 ((rd_T26 t254 t275).f3).length c283_4], .agg #[.string t257, .string t258, .string t259, .slice Ao17 t260.length co17, .slice Ao19 t263.length co19]] (by rfl) rfl rfl rl_ ?_
          with_reducible refine (rule_Holds.calls k1 ((rd_T26 t254 t275).f0.f0) ((rd_T26 t254 t275).f0.f1) ((rd_T26 t254 t275).f1) _ _ ((rd_T26 t254 t275).f2) _ _ ((rd_T26 t254 t275).f3) t257 t258 t259 _ _ t260 _ _ t263 t284 _ ?side1 ?side2 ?side3 ?side4 ?side5 ?side6 ?side7 ?side8 A54.out).mono ?_
          (case side1 => repeat (first | exact (by repeat (first | (with_reducible exact HR283_3.out) | (with_reducible refine Kd.C_alloc ?_ _) | (with_reducible refine Kd.C_drewN ?_ _) | (with_reducible refine Kd.C_drew ?_) | exact HR283_3.out)) | (with_reducible refine Kd.C_alloc ?_ _) | (with_reducible refine Kd.C_drewN ?_ _) | (with_reducible refine Kd.C_drew ?_)))
          (case side2 => exact HC283_3.out)
          (case side3 => repeat (first | exact (by repeat (first | (with_reducible exact HR283_4.out) | (with_reducible refine Kd.C_alloc ?_ _) | (with_reducible refine Kd.C_drewN ?_ _) | (with_reducible refine Kd.C_drew ?_) | exact HR283_4.out)) | (with_reducible refine Kd.C_alloc ?_ _) | (with_reducible refine Kd.C_drewN ?_ _) | (with_reducible refine Kd.C_drew ?_)))
          (case side4 => exact HC283_4.out)
          (case side5 => exact C_ (Kd.R_reads' HO_253003.out).2.2)
          (case side6 => exact (Kd.R_reads' HO_253003.out).2.1)
          (case side7 => exact C_ (Kd.R_reads' HO_253004.out).2.2)
          (case side8 => exact (Kd.R_reads' HO_253004.out).2.1)
          rintro e w56 ⟨rfl, hb⟩
          have HS5_ := (hb.cell (World.block_lt_of_cell? _ _ (hHeld.2.2.2.2.2.1))).trans (hHeld.2.2.2.2.2.1)
          have HS6_ := (hb.cell (World.block_lt_of_cell? _ _ (hHeld.2.2.2.2.2.2.1))).trans (hHeld.2.2.2.2.2.2.1)
          have HS7_ := (hb.cell (World.block_lt_of_cell? _ _ (hHeld.2.2.2.2.2.2.2.1))).trans (hHeld.2.2.2.2.2.2.2.1)
          have HS8_ := (hb.cell (World.block_lt_of_cell? _ _ (hHeld.2.2.2.2.2.2.2.2.1))).trans (hHeld.2.2.2.2.2.2.2.2.1)
          have HS9_ := (hb.cell (World.block_lt_of_cell? _ _ (hHeld.2.2.2.2.2.2.2.2.2))).trans (hHeld.2.2.2.2.2.2.2.2.2)
          refine ⟨_, rfl, ?_⟩
          have n0_ := am_ (Kd.N_below (N_ HO_0.out) hb)
          have n1_ := am_ (Kd.R_below (R_ HO_253003.out) hb)
          have n2_ := am_ (Kd.R_below (R_ HO_253004.out) hb)
          have n3_ := am_ (Kd.R_below (R_ HO_254003.out) hb)
          have n4_ := am_ (Kd.R_below (R_ HO_254004.out) hb)
          have n5_ := am_ (Kd.V_below (by (with_reducible repeat (first | apply Kd.V_alloc | apply Kd.V_drewN | apply Kd.V_drew)); exact HL283_3.out) hb)
          have n6_ := am_ (Kd.V_below (by (with_reducible repeat (first | apply Kd.V_alloc | apply Kd.V_drewN | apply Kd.V_drew)); exact HL283_4.out) hb)
          have n7_ := am_ (blk_below (g := gb252) (o := .cells #[.string t257, .string t258, .string t259, .slice Ao17 t260.length co17, .slice Ao19 t263.length co19] 28 (0, 0)) (blk_ BK252.out) hb)
          have n8_ := am_ (blk_below (g := gb253) (o := .cells #[.int .i64 t266, .string t267, .string t268, .slice Ao24 t269.length co24, .slice Ao26 t272.length co26] 26 (0, 0)) (blk_ BK253.out) hb)
          have n9_ := am_ (Kd.C_below (by repeat (first | (with_reducible exact HR283_3.out) | (with_reducible refine Kd.C_alloc ?_ _) | (with_reducible refine Kd.C_drewN ?_ _) | (with_reducible refine Kd.C_drew ?_) | exact HR283_3.out)) hb)
          have n10_ := am_ (Kd.C_below (by repeat (first | (with_reducible exact HR283_4.out) | (with_reducible refine Kd.C_alloc ?_ _) | (with_reducible refine Kd.C_drewN ?_ _) | (with_reducible refine Kd.C_drew ?_) | exact HR283_4.out)) hb)
          have n11_ := am_ (below_step (bel_ HB.out) hb)
          clear HO_0 HO_253003 HO_253004 HO_254003 HO_254004 HL283_3 HL283_4 BK252 BK253 HR283_3 HR283_4 HB
          have HO_0 := n0_
          have HO_253003 := n1_
          have HO_253004 := n2_
          have HO_254003 := n3_
          have HO_254004 := n4_
          have HL283_3 := n5_
          have HL283_4 := n6_
          have BK252 := n7_
          have BK253 := n8_
          have HR283_3 := n9_
          have HR283_4 := n10_
          have HB := n11_
          clear n0_ n1_ n2_ n3_ n4_ n5_ n6_ n7_ n8_ n9_ n10_ n11_
          (try clear hb)
          (try clear hb2)
          (try clear hk)
          (try clear hi)
          refine hK.out _ _ ⟨(blk_cell BK252.out 0).trans rfl, (blk_cell BK252.out 1).trans rfl, (blk_cell BK252.out 2).trans rfl, (blk_cell BK252.out 3).trans rfl, (blk_cell BK252.out 4).trans rfl, HS5_, HS6_, HS7_, HS8_, HS9_⟩ (fun hHeld => ?_)
          clear hK K
          refine norm_ (a' := ?_) ?_ ?_
          rotate_left
          ·show Act.put _ (some 84) _ = _
           simp only [Act.put, sx_, s0_, s1_, i64_w, i32_w]
           rfl
          refine pure_ (i := 15) (N := some 85) (v := ?_) (a' := ?_) #[true, true, true, true, true, true, true, true, true, true, true, true, true, true, true, true, false] rfl rfl (any_of HT_.out kr_) (fun _ _ _ h => h) (Or.inl ⟨by rfl, ?_⟩) ?_ ?_
          rotate_left
          ·intro w'
           go_simp
           with_reducible rfl
          rotate_left
          ·simp only [Act.put, sx_, s0_, s1_, i64_w, i32_w]
           rfl
          refine pure_ (i := 16) (N := some 86) (v := ?_) (a' := ?_) #[true, true, true, true, true, true, true, true, true, true, true, true, true, true, true, true, true] rfl rfl (any_of HT_.out kr_) (fun _ _ _ h => h) (Or.inl ⟨by rfl, ?_⟩) ?_ ?_
          rotate_left
          ·intro w'
           go_simp
           with_reducible rfl
          rotate_left
          ·simp only [Act.put, sx_, s0_, s1_, i64_w, i32_w]
           rfl
          refine done_ (done_of HT_.out kr_) ?_
          try go_wp2
          go_meet
          case rel => exact ⟨_, (!t284), sd_, H', ⟨by have := HK1.out; first | omega | exact Nat.le_refl _⟩, ⟨by (with_reducible repeat (first | apply Kd.N_alloc | apply Kd.N_drewN | apply Kd.N_drew)); exact HO_0.out⟩, ⟨by (with_reducible repeat (first | apply Kd.R_alloc | apply Kd.R_drewN | apply Kd.R_drew)); exact HO_253003.out⟩, ⟨by (with_reducible repeat (first | apply Kd.R_alloc | apply Kd.R_drewN | apply Kd.R_drew)); exact HO_253004.out⟩, ⟨by (with_reducible repeat (first | apply Kd.R_alloc | apply Kd.R_drewN | apply Kd.R_drew)); exact HO_254003.out⟩, ⟨by (with_reducible repeat (first | apply Kd.R_alloc | apply Kd.R_drewN | apply Kd.R_drew)); exact HO_254004.out⟩, ⟨by (with_reducible repeat (first | refine blk_drewN ?_ _ | refine blk_drew ?_ | refine blk_alloc ?_ _)); exact BK252.out⟩, ⟨by (with_reducible repeat (first | refine blk_drewN ?_ _ | refine blk_drew ?_ | refine blk_alloc ?_ _)); exact BK253.out⟩, ⟨bel_ HB.out⟩⟩
         ·rw [if_neg c53] at H
          exact absurd H (by simp)
        ·rw [if_neg c52] at H
         exact absurd H (by simp)
     case rest =>
      clear HC49
      try clear c1
      try clear c2
      try clear p2
      try clear q2
      try clear hx2
      try clear c3
      try clear c4
      try clear c5
      try clear p6
      try clear c14
      try clear c27
      try clear p27
      try clear q27
      try clear hx27
      try clear c28
      try clear p28
      try clear q28
      try clear hx28
      try clear c32
      try clear c32b0
      try clear c33
      try clear c35
      try clear c48
      try clear c50
      try clear c50b0
      try clear c50b1
      try clear c50b2
      try clear c51
      try clear c51b0
      try clear c52
      try clear c52b0
      try clear c53
      try clear c53b0
      try clear hx277_0
      try clear hx277_1
      try clear hx277_2
      try clear hx277_3
      try clear hx277_4
      try clear hx283_0
      try clear hx283_1
      try clear hx283_2
      try clear hx283_3
      try clear hx283_4
      try clear p277
      try clear p283
      try clear q277
      try clear q283
      obtain ⟨kq, x86_48, rfl, HA, HJ48, HO_0, HO_253003, HO_253004, HO_254003, HO_254004, BK252, BK253, HB⟩ := hcut
      cases kq with
      | zero => exact absurd HA.out (by simp [tolllaw06_RuleFirst_g1.j1])
      | succ kj48 =>
       have H := HA.out
       clear HA
       simp only [tolllaw06_RuleFirst_g1.j1] at H
       by_cases c57 : x86_48 = true
       ·subst c57
        have H1 : (none) = some r := by rw [if_pos rfl] at H; exact H
        clear H
        have H := H1
        clear H1
        exact absurd H (by simp)
       ·replace c57 := Bool.eq_false_iff.mpr c57
        subst c57
        have H1 : ((some (([] : List (S26)) : List (S26))).bind fun y285 => (if y285.length + t254.length < 1599289640401 then ((some (y285 ++ t254 : List (S26))).bind fun y288 => ((some (([(⟨(⟨t266, t267⟩ : S23), t268, t269, t272⟩ : S26)] : List (S26)) : List (S26))).bind fun y291 => (if y288.length + y291.length < 1599289640401 then ((rule_First.f kj48 (y288 ++ y291) t257 t258 t259 t260 t263).bind fun bt297 => ((rule_Holds.f kj48 t266 t267 t268 t269 t272 t257 t258 t259 t260 t263).bind fun t299 => (if t299 = true then (none) else (if bt297.2 = true then (if ((bt297.1 == (t254.length : Int)) == false) = true then (if bt297.1 = t275 then ((tolllaw06_awake.f).bind fun t304 => (some t304)) else (none)) else (none)) else (none))))) else (none)))) else (none))) = some r := by rw [if_neg (show ¬ (false = true) by decide)] at H; exact H
        clear H
        have H := H1
        clear H1
        obtain ⟨y285, hy285⟩ : ∃ y_ : List (S26), y_ = (([] : List (S26))) := ⟨_, rfl⟩
        replace H : (if y285.length + t254.length < 1599289640401 then ((some (y285 ++ t254 : List (S26))).bind fun y288 => ((some (([(⟨(⟨t266, t267⟩ : S23), t268, t269, t272⟩ : S26)] : List (S26)) : List (S26))).bind fun y291 => (if y288.length + y291.length < 1599289640401 then ((rule_First.f kj48 (y288 ++ y291) t257 t258 t259 t260 t263).bind fun bt297 => ((rule_Holds.f kj48 t266 t267 t268 t269 t272 t257 t258 t259 t260 t263).bind fun t299 => (if t299 = true then (none) else (if bt297.2 = true then (if ((bt297.1 == (t254.length : Int)) == false) = true then (if bt297.1 = t275 then ((tolllaw06_awake.f).bind fun t304 => (some t304)) else (none)) else (none)) else (none))))) else (none)))) else (none)) = some r := by first | (rw [hy285]; with_reducible exact H) | (have H2_ := (Option.bind_some _ _).symm.trans H; rw [hy285]; with_reducible exact H2_) | (have H2_ := (Option.bind_some _ _).symm.trans H; with_reducible exact H2_) | with_reducible exact H | (rw [hy285]; exact H) | exact H
        have Ny285 := Aside0.mk hy285
        clear hy285
        by_cases c58 : y285.length + t254.length < 1599289640401
        ·rw [if_pos c58] at H
         have LMc58 := Aside0.mk c58
         clear c58
         obtain ⟨y288, hy288⟩ : ∃ y_ : List (S26), y_ = (y285 ++ t254) := ⟨_, rfl⟩
         replace H : ((some (([(⟨(⟨t266, t267⟩ : S23), t268, t269, t272⟩ : S26)] : List (S26)) : List (S26))).bind fun y291 => (if y288.length + y291.length < 1599289640401 then ((rule_First.f kj48 (y288 ++ y291) t257 t258 t259 t260 t263).bind fun bt297 => ((rule_Holds.f kj48 t266 t267 t268 t269 t272 t257 t258 t259 t260 t263).bind fun t299 => (if t299 = true then (none) else (if bt297.2 = true then (if ((bt297.1 == (t254.length : Int)) == false) = true then (if bt297.1 = t275 then ((tolllaw06_awake.f).bind fun t304 => (some t304)) else (none)) else (none)) else (none))))) else (none))) = some r := by first | (rw [hy288]; with_reducible exact H) | (have H2_ := (Option.bind_some _ _).symm.trans H; rw [hy288]; with_reducible exact H2_) | (have H2_ := (Option.bind_some _ _).symm.trans H; with_reducible exact H2_) | with_reducible exact H | (rw [hy288]; exact H) | exact H
         have Ny288 := Aside0.mk hy288
         clear hy288
         obtain ⟨y291, hy291⟩ : ∃ y_ : List (S26), y_ = (([(⟨(⟨t266, t267⟩ : S23), t268, t269, t272⟩ : S26)] : List (S26))) := ⟨_, rfl⟩
         replace H : (if y288.length + y291.length < 1599289640401 then ((rule_First.f kj48 (y288 ++ y291) t257 t258 t259 t260 t263).bind fun bt297 => ((rule_Holds.f kj48 t266 t267 t268 t269 t272 t257 t258 t259 t260 t263).bind fun t299 => (if t299 = true then (none) else (if bt297.2 = true then (if ((bt297.1 == (t254.length : Int)) == false) = true then (if bt297.1 = t275 then ((tolllaw06_awake.f).bind fun t304 => (some t304)) else (none)) else (none)) else (none))))) else (none)) = some r := by first | (rw [hy291]; with_reducible exact H) | (have H2_ := (Option.bind_some _ _).symm.trans H; rw [hy291]; with_reducible exact H2_) | (have H2_ := (Option.bind_some _ _).symm.trans H; with_reducible exact H2_) | with_reducible exact H | (rw [hy291]; exact H) | exact H
         have Ny291 := Aside0.mk hy291
         clear hy291
         by_cases c59 : y288.length + y291.length < 1599289640401
         ·rw [if_pos c59] at H
          have LMc59 := Aside0.mk c59
          clear c59
          obtain ⟨y294, hy294⟩ : ∃ y_ : List (S26), y_ = (y288 ++ y291) := ⟨_, rfl⟩
          replace H : ((rule_First.f kj48 y294 t257 t258 t259 t260 t263).bind fun bt297 => ((rule_Holds.f kj48 t266 t267 t268 t269 t272 t257 t258 t259 t260 t263).bind fun t299 => (if t299 = true then (none) else (if bt297.2 = true then (if ((bt297.1 == (t254.length : Int)) == false) = true then (if bt297.1 = t275 then ((tolllaw06_awake.f).bind fun t304 => (some t304)) else (none)) else (none)) else (none))))) = some r := by first | (rw [hy294]; with_reducible exact H) | (have H2_ := (Option.bind_some _ _).symm.trans H; rw [hy294]; with_reducible exact H2_) | (have H2_ := (Option.bind_some _ _).symm.trans H; with_reducible exact H2_) | with_reducible exact H | (rw [hy294]; exact H) | exact H
          have Ny294 := Aside0.mk hy294
          clear hy294
          replace H := Option.bind_eq_some_iff.mp H
          obtain ⟨⟨t297, t298⟩, A600, H⟩ := H
          replace H : ((rule_Holds.f kj48 t266 t267 t268 t269 t272 t257 t258 t259 t260 t263).bind fun t299 => (if t299 = true then (none) else (if t298 = true then (if ((t297 == (t254.length : Int)) == false) = true then (if t297 = t275 then ((tolllaw06_awake.f).bind fun t304 => (some t304)) else (none)) else (none)) else (none)))) = some r := H
          have A60 := Aside0.mk A600
          clear A600
          replace H := Option.bind_eq_some_iff.mp H
          obtain ⟨t299, A610, H⟩ := H
          replace H : (if t299 = true then (none) else (if t298 = true then (if ((t297 == (t254.length : Int)) == false) = true then (if t297 = t275 then ((tolllaw06_awake.f).bind fun t304 => (some t304)) else (none)) else (none)) else (none))) = some r := H
          have A61 := Aside0.mk A610
          clear A610
          by_cases c62 : t299 = true
          ·subst c62
           have H1 : (none) = some r := by rw [if_pos rfl] at H; exact H
           clear H
           have H := H1
           clear H1
           exact absurd H (by simp)
          ·replace c62 := Bool.eq_false_iff.mpr c62
           subst c62
           have H1 : (if t298 = true then (if ((t297 == (t254.length : Int)) == false) = true then (if t297 = t275 then ((tolllaw06_awake.f).bind fun t304 => (some t304)) else (none)) else (none)) else (none)) = some r := by rw [if_neg (show ¬ (false = true) by decide)] at H; exact H
           clear H
           have H := H1
           clear H1
           by_cases c63 : t298 = true
           ·subst c63
            have H1 : (if ((t297 == (t254.length : Int)) == false) = true then (if t297 = t275 then ((tolllaw06_awake.f).bind fun t304 => (some t304)) else (none)) else (none)) = some r := by rw [if_pos rfl] at H; exact H
            clear H
            have H := H1
            clear H1
            by_cases c64 : ((t297 == (t254.length : Int)) == false) = true
            ·rw [if_pos c64] at H
             have c64b0 : ((t297 == (t254.length : Int)) == false) = true := c64
             (try (have c64b1 : decide ((t297 == (t254.length : Int)) = false) = true := by simpa using c64))
             (try (have c64b2 : ((t297 == (t254.length : Int)) == false) = true := by simpa using c64))
             clear c64
             by_cases c65 : t297 = t275
             ·rw [if_pos c65] at H
              have c65b0 : (t297 == t275) = true := beq_iff_eq.mpr c65
              have c65b1 : (t297 != t275) = false := bne_eq_false_iff_eq.mpr c65
              clear c65
              replace H := Option.bind_eq_some_iff.mp H
              obtain ⟨t304, A660, H⟩ := H
              replace H : (some t304) = some r := H
              have A66 := Aside0.mk A660
              clear A660
              obtain rfl := Option.some.inj H
              try go_wp2
              have n0_ := am_ (Kd.N_drew HO_0.out)
              have n1_ := am_ (Kd.R_drew HO_253003.out)
              have n2_ := am_ (Kd.R_drew HO_253004.out)
              have n3_ := am_ (Kd.R_drew HO_254003.out)
              have n4_ := am_ (Kd.R_drew HO_254004.out)
              have n5_ := am_ (blk_drew BK252.out)
              have n6_ := am_ (blk_drew BK253.out)
              have n7_ := am_ (below_drew1 HB.out)
              clear HO_0 HO_253003 HO_253004 HO_254003 HO_254004 BK252 BK253 HB
              have HO_0 := n0_
              have HO_253003 := n1_
              have HO_253004 := n2_
              have HO_254003 := n3_
              have HO_254004 := n4_
              have BK252 := n5_
              have BK253 := n6_
              have HB := n7_
              clear n0_ n1_ n2_ n3_ n4_ n5_ n6_ n7_
              refine start_ (n := 13) (S := fun w' => w'.cell? ⟨gb253, 0, none⟩ = some (.int .i64 t266) ∧ w'.cell? ⟨gb253, 1, none⟩ = some (.string t267) ∧ w'.cell? ⟨gb253, 2, none⟩ = some (.string t268) ∧ w'.cell? ⟨gb253, 3, none⟩ = some (.slice Ao24 t269.length co24) ∧ w'.cell? ⟨gb253, 4, none⟩ = some (.slice Ao26 t272.length co26) ∧ w'.cell? ⟨gb252, 0, none⟩ = some (.string t257) ∧ w'.cell? ⟨gb252, 1, none⟩ = some (.string t258) ∧ w'.cell? ⟨gb252, 2, none⟩ = some (.string t259) ∧ w'.cell? ⟨gb252, 3, none⟩ = some (.slice Ao17 t260.length co17) ∧ w'.cell? ⟨gb252, 4, none⟩ = some (.slice Ao19 t263.length co19)) (ds := []) #[false, false, false, false, false, false, false, false, false, false, false, false, false] kr_ rfl rfl ⟨(blk_cell BK253.out 0).trans rfl, (blk_cell BK253.out 1).trans rfl, (blk_cell BK253.out 2).trans rfl, (blk_cell BK253.out 3).trans rfl, (blk_cell BK253.out 4).trans rfl, (blk_cell BK252.out 0).trans rfl, (blk_cell BK252.out 1).trans rfl, (blk_cell BK252.out 2).trans rfl, (blk_cell BK252.out 3).trans rfl, (blk_cell BK252.out 4).trans rfl⟩ (fun hHeld => ?_); refine with_tabW tolllaw06_RuleFirst_g1.tab12 tolllaw06_RuleFirst_g1.bits12 (fun HT_ HW_ => ?_)
              generalize wc.drew = w67 at HO_0 HO_253003 HO_253004 HO_254003 HO_254004 BK252 BK253 HB hHeld ⊢
              refine pure_ (i := 1) (N := some 89) (v := ?_) (a' := ?_) #[false, true, false, false, false, false, false, false, false, false, false, false, false] rfl rfl (any_of HT_.out kr_) (fun _ _ _ h => h) (Or.inl ⟨by rfl, ?_⟩) ?_ ?_
              rotate_left
              ·intro w'
               go_simp
               with_reducible rfl
              rotate_left
              ·simp only [Act.put, sx_, s0_, s1_, i64_w, i32_w]
               rfl
              refine take_ (i := 3) (N := some 91) (v := ?_) (a' := ?_) #[false, true, false, true, false, false, false, false, false, false, false, false, false] rfl rfl (take_ofW HT_.out HW_.out kr_) (fun _ _ _ h => h) (Or.inl ⟨by rfl, ?_⟩) hHeld ?_ ?_
              rotate_left
              ·rintro w' ⟨s0, s1, s2, s3, s4, s5, s6, s7, s8, s9⟩
               go_simp
               with_reducible rfl
              rotate_left
              ·simp only [Act.put, sx_, s0_, s1_, i64_w, i32_w]
               rfl
              refine take_ (i := 6) (N := some 94) (v := ?_) (a' := ?_) #[false, true, false, true, false, false, true, false, false, false, false, false, false] rfl rfl (take_ofW HT_.out HW_.out kr_) (fun _ _ _ h => h) (Or.inl ⟨by rfl, ?_⟩) hHeld ?_ ?_
              rotate_left
              ·rintro w' ⟨s0, s1, s2, s3, s4, s5, s6, s7, s8, s9⟩
               go_simp
               with_reducible rfl
              rotate_left
              ·simp only [Act.put, sx_, s0_, s1_, i64_w, i32_w]
               rfl
              refine join_ (σ := Value × Value × Value) 7 #[true, true, true, true, true, false, true, false, false, false, false, false, false] (fun s_ => [(88, s_.1), (90, s_.2.1), (92, s_.2.2)]) (fun s_ w' => (w'.cell? ⟨gb253, 0, none⟩ = some (.int .i64 t266) ∧ w'.cell? ⟨gb253, 1, none⟩ = some (.string t267) ∧ w'.cell? ⟨gb253, 2, none⟩ = some (.string t268) ∧ w'.cell? ⟨gb253, 3, none⟩ = some (.slice Ao24 t269.length co24) ∧ w'.cell? ⟨gb253, 4, none⟩ = some (.slice Ao26 t272.length co26) ∧ w'.cell? ⟨gb252, 0, none⟩ = some (.string t257) ∧ w'.cell? ⟨gb252, 1, none⟩ = some (.string t258) ∧ w'.cell? ⟨gb252, 2, none⟩ = some (.string t259) ∧ w'.cell? ⟨gb252, 3, none⟩ = some (.slice Ao17 t260.length co17) ∧ w'.cell? ⟨gb252, 4, none⟩ = some (.slice Ao19 t263.length co19)) ∧ (Kd.N k26 26 w' w.heap.size (fun k_ => some k_ ≠ (s_.2.2 : Value).ownBlock ∧ some k_ ≠ (.slice Ao17 t260.length co17 : Value).ownBlock ∧ some k_ ≠ (.slice Ao19 t263.length co19 : Value).ownBlock ∧ k_ ≠ gb252 ∧ k_ ≠ gb253) s_.2.1 y288) ∧ (Kd.N k26 26 w' w.heap.size (fun k_ => some k_ ≠ (s_.2.1 : Value).ownBlock ∧ some k_ ≠ (.slice Ao30 t254.length co30 : Value).ownBlock ∧ some k_ ≠ (.slice Ao17 t260.length co17 : Value).ownBlock ∧ some k_ ≠ (.slice Ao19 t263.length co19 : Value).ownBlock ∧ k_ ≠ gb252 ∧ k_ ≠ gb253) s_.2.2 y291) ∧ (Kd.N k26 26 w' w.heap.size (fun k_ => some k_ ≠ (s_.2.1 : Value).ownBlock ∧ some k_ ≠ (s_.2.2 : Value).ownBlock ∧ some k_ ≠ (.slice Ao17 t260.length co17 : Value).ownBlock ∧ some k_ ≠ (.slice Ao19 t263.length co19 : Value).ownBlock ∧ k_ ≠ gb252 ∧ k_ ≠ gb253) (.slice Ao30 t254.length co30) t254) ∧ (Kd.R k49 49 w' w.heap.size (fun k_ => some k_ ≠ (.slice Ao19 t263.length co19 : Value).ownBlock) (.slice Ao17 t260.length co17) t260) ∧ (Kd.R k49 49 w' w.heap.size (fun k_ => some k_ ≠ (.slice Ao17 t260.length co17 : Value).ownBlock) (.slice Ao19 t263.length co19) t263) ∧ (w'.heap[gb252]? = some (.cells #[.string t257, .string t258, .string t259, .slice Ao17 t260.length co17, .slice Ao19 t263.length co19] 28 (0, 0))) ∧ (w'.heap[gb253]? = some (.cells #[.int .i64 t266, .string t267, .string t268, .slice Ao24 t269.length co24, .slice Ao26 t272.length co26] 26 (0, 0))) ∧ (Below w.heap.size w w') ∧ (Kd.R k49 49 w' w.heap.size (fun _ => True) (.slice Ao24 t269.length co24) t269) ∧ (Kd.R k49 49 w' w.heap.size (fun _ => True) (.slice Ao26 t272.length co26) t272)) ?_ ?_
              rotate_left
              ·intro hCont
               refine two_ (i := 0) (j := 4) (Ni := some 88) (Nj := some 92) #[true, true, false, true, false, false, true, false, false, false, false, false, false] #[false, true, false, true, true, false, true, false, false, false, false, false, false] rfl rfl rfl rfl (two_of HT_.out kr_) (by decide) (by decide) (fun K hK => ?_) (fun K hK => ?_)
               ·skip
                refine Kd.N_lit_step k26 _ 26 ?hg (N' := 88) ?hd (xs := ([] : List (S26))) (inner := []) (ok := (fun k_ => some k_ ≠ (.slice Ao30 t254.length co30 : Value).ownBlock ∧ some k_ ≠ (.slice Ao17 t260.length co17 : Value).ownBlock ∧ some k_ ≠ (.slice Ao19 t263.length co19 : Value).ownBlock ∧ some k_ ≠ (.slice Ao24 t269.length co24 : Value).ownBlock ∧ some k_ ≠ (.slice Ao26 t272.length co26 : Value).ownBlock ∧ k_ ≠ gb252 ∧ k_ ≠ gb253)) (okp := (fun k_ => some k_ ≠ (.slice Ao30 t254.length co30 : Value).ownBlock ∧ some k_ ≠ (.slice Ao17 t260.length co17 : Value).ownBlock ∧ some k_ ≠ (.slice Ao19 t263.length co19 : Value).ownBlock ∧ some k_ ≠ (.slice Ao24 t269.length co24 : Value).ownBlock ∧ some k_ ≠ (.slice Ao26 t272.length co26 : Value).ownBlock ∧ k_ ≠ gb252 ∧ k_ ≠ gb253)) ?hr ?hp (fun _ hk => hk) ((show ∀ k_, w67.heap.size ≤ k_ → (fun k_ => some k_ ≠ (.slice Ao30 t254.length co30 : Value).ownBlock ∧ some k_ ≠ (.slice Ao17 t260.length co17 : Value).ownBlock ∧ some k_ ≠ (.slice Ao19 t263.length co19 : Value).ownBlock ∧ some k_ ≠ (.slice Ao24 t269.length co24 : Value).ownBlock ∧ some k_ ≠ (.slice Ao26 t272.length co26 : Value).ownBlock ∧ k_ ≠ gb252 ∧ k_ ≠ gb253) k_ from fun k_ hk => ⟨Kd.fresh' (Kd.N_lt (N_ HO_0.out)) k_ hk, Kd.fresh' (Kd.R_lt (R_ HO_253003.out)) k_ hk, Kd.fresh' (Kd.R_lt (R_ HO_253004.out)) k_ hk, Kd.fresh' (Kd.R_lt (R_ HO_254003.out)) k_ hk, Kd.fresh' (Kd.R_lt (R_ HO_254004.out)) k_ hk, Kd.freshB (g := gb252) (o := .cells #[.string t257, .string t258, .string t259, .slice Ao17 t260.length co17, .slice Ao19 t263.length co19] 28 (0, 0)) (blk_ BK252.out) k_ hk, Kd.freshB (g := gb253) (o := .cells #[.int .i64 t266, .string t267, .string t268, .slice Ao24 t269.length co24, .slice Ao26 t272.length co26] 26 (0, 0)) (blk_ BK253.out) k_ hk⟩) _ (Nat.le_refl _)) (Below.refl _ _) (Nat.le_refl _) (by simp) ?_; (case hd => rfl); (case hg => rfl); (case hr => first | (go_simp; done) | (go_simp; rfl)); (case hp => exact (Reps.none _ _))
                intro v286 w68 ho69 hb hg_ hnew_
                clear hg_ hnew_
                (first | rw [← Ny285.out] at ho69 | (simp only [Int.reduceToNat] at ho69; rw [← Ny285.out] at ho69))
                have n0_ := am_ (Kd.N_elder' (N_ HO_0.out) (Kd.N_base ho69) hb)
                have n1_ := am_ (Kd.R_below (R_ HO_253003.out) hb)
                have n2_ := am_ (Kd.R_below (R_ HO_253004.out) hb)
                have n3_ := am_ (Kd.R_below (R_ HO_254003.out) hb)
                have n4_ := am_ (Kd.R_below (R_ HO_254004.out) hb)
                have n5_ := am_ (Kd.N_lower ho69 (below_size (bel_ HB.out)))
                have n6_ := am_ (blk_below (g := gb252) (o := .cells #[.string t257, .string t258, .string t259, .slice Ao17 t260.length co17, .slice Ao19 t263.length co19] 28 (0, 0)) (blk_ BK252.out) hb)
                have n7_ := am_ (blk_below (g := gb253) (o := .cells #[.int .i64 t266, .string t267, .string t268, .slice Ao24 t269.length co24, .slice Ao26 t272.length co26] 26 (0, 0)) (blk_ BK253.out) hb)
                have n8_ := am_ (below_step (bel_ HB.out) hb)
                clear HO_0 HO_253003 HO_253004 HO_254003 HO_254004 BK252 BK253 HB
                have HO_0 := n0_
                have HO_253003 := n1_
                have HO_253004 := n2_
                have HO_254003 := n3_
                have HO_254004 := n4_
                have HO287 := n5_
                have BK252 := n6_
                have BK253 := n7_
                have HB := n8_
                clear n0_ n1_ n2_ n3_ n4_ n5_ n6_ n7_ n8_ hb ho69
                refine hK.out _ _ ⟨(blk_cell BK253.out 0).trans rfl, (blk_cell BK253.out 1).trans rfl, (blk_cell BK253.out 2).trans rfl, (blk_cell BK253.out 3).trans rfl, (blk_cell BK253.out 4).trans rfl, (blk_cell BK252.out 0).trans rfl, (blk_cell BK252.out 1).trans rfl, (blk_cell BK252.out 2).trans rfl, (blk_cell BK252.out 3).trans rfl, (blk_cell BK252.out 4).trans rfl⟩ (fun hHeld => ?_)
                clear hK K
                refine norm_ (a' := ?_) ?_ ?_
                rotate_left
                ·show Act.put _ (some 88) _ = _
                 simp only [Act.put, sx_, s0_, s1_, i64_w, i32_w]
                 rfl
                refine two_ (i := 2) (j := 4) (Ni := some 90) (Nj := some 92) #[true, true, true, true, false, false, true, false, false, false, false, false, false] #[true, true, false, true, true, false, true, false, false, false, false, false, false] rfl rfl rfl rfl (two_of HT_.out kr_) (by decide) (by decide) (fun K hK => ?_) (fun K hK => ?_)
                ·skip
                 refine Kd.N_append_rows_step k26 (w0 := w) w.heap.size (by rfl) (.tmp 88) (.tmp 89) 39 26 (.agg #[(.int .i64 0), (.string ⟨#[]⟩), (.string ⟨#[]⟩), (.slice none 0 0), (.slice none 0 0)]) 88 rfl Tryd.underlying39 info26 rfl (by decide) (by omega) v286 y285 t254 _ _ _ (fun k_ => some k_ ≠ (.slice Ao17 t260.length co17 : Value).ownBlock ∧ some k_ ≠ (.slice Ao19 t263.length co19 : Value).ownBlock ∧ some k_ ≠ (.slice Ao24 t269.length co24 : Value).ownBlock ∧ some k_ ≠ (.slice Ao26 t272.length co26 : Value).ownBlock ∧ k_ ≠ gb252 ∧ k_ ≠ gb253) (fun k_ => ((fun k_ => some k_ ≠ (.slice Ao17 t260.length co17 : Value).ownBlock ∧ some k_ ≠ (.slice Ao19 t263.length co19 : Value).ownBlock ∧ some k_ ≠ (.slice Ao24 t269.length co24 : Value).ownBlock ∧ some k_ ≠ (.slice Ao26 t272.length co26 : Value).ownBlock ∧ k_ ≠ gb252 ∧ k_ ≠ gb253)) k_ ∧ some k_ ≠ (v286 : Value).ownBlock) rfl rfl ?aO ?aR (fun _ hk => hk) ?aF ?aB ?aS ?aL ?_
                 (case aR => exact (by skip; exact Kd.N_F (Kd.N_mono (ok' := (fun k_ => ((fun k_ => some k_ ≠ (.slice Ao17 t260.length co17 : Value).ownBlock ∧ some k_ ≠ (.slice Ao19 t263.length co19 : Value).ownBlock ∧ some k_ ≠ (.slice Ao24 t269.length co24 : Value).ownBlock ∧ some k_ ≠ (.slice Ao26 t272.length co26 : Value).ownBlock ∧ k_ ≠ gb252 ∧ k_ ≠ gb253)) k_ ∧ some k_ ≠ (v286 : Value).ownBlock)) (HO_0.out) (fun k_ hk => ⟨⟨hk.1.1, ⟨hk.1.2.1, ⟨hk.1.2.2.1, ⟨hk.1.2.2.2.1, ⟨hk.1.2.2.2.2.1, hk.1.2.2.2.2.2⟩⟩⟩⟩⟩, hk.2⟩))))
                 (case aB => exact (bel_ HB.out))
                 (case aF => exact (fun k_ hk => ⟨Kd.fresh' (Kd.R_lt (R_ HO_253003.out)) k_ hk, Kd.fresh' (Kd.R_lt (R_ HO_253004.out)) k_ hk, Kd.fresh' (Kd.R_lt (R_ HO_254003.out)) k_ hk, Kd.fresh' (Kd.R_lt (R_ HO_254004.out)) k_ hk, Kd.freshB (g := gb252) (o := .cells #[.string t257, .string t258, .string t259, .slice Ao17 t260.length co17, .slice Ao19 t263.length co19] 28 (0, 0)) (blk_ BK252.out) k_ hk, Kd.freshB (g := gb253) (o := .cells #[.int .i64 t266, .string t267, .string t268, .slice Ao24 t269.length co24, .slice Ao26 t272.length co26] 26 (0, 0)) (blk_ BK253.out) k_ hk⟩))
                 (case aO => exact (by (with_reducible repeat (first | apply Kd.N_alloc | apply Kd.N_drewN | apply Kd.N_drew)); exact Kd.N_mono HO287.out (fun _ hk => ⟨hk.2.1, ⟨hk.2.2.1, ⟨hk.2.2.2.1, ⟨hk.2.2.2.2.1, ⟨hk.2.2.2.2.2.1, hk.2.2.2.2.2.2⟩⟩⟩⟩⟩)))
                 (case aS => exact (below_size (bel_ HB.out)))
                 (case aL => have := LMc58.out; omega)
                 intro v289 w70 ho hb hg hat
                 rw [← Ny288.out] at ho
                 have n0_ := am_ (Kd.N_afterv (ok := (fun k_ => some k_ ≠ (.slice Ao17 t260.length co17 : Value).ownBlock ∧ some k_ ≠ (.slice Ao19 t263.length co19 : Value).ownBlock ∧ some k_ ≠ (.slice Ao24 t269.length co24 : Value).ownBlock ∧ some k_ ≠ (.slice Ao26 t272.length co26 : Value).ownBlock ∧ k_ ≠ gb252 ∧ k_ ≠ gb253)) (N_ HO_0.out) hg hat)
                 have n1_ := am_ (Kd.R_over' (R_ HO_253003.out) (Kd.N_typed (N_ HO287.out)) (by decide) hg)
                 have n2_ := am_ (Kd.R_over' (R_ HO_253004.out) (Kd.N_typed (N_ HO287.out)) (by decide) hg)
                 have n3_ := am_ (Kd.R_over' (R_ HO_254003.out) (Kd.N_typed (N_ HO287.out)) (by decide) hg)
                 have n4_ := am_ (Kd.R_over' (R_ HO_254004.out) (Kd.N_typed (N_ HO287.out)) (by decide) hg)
                 have n5_ := am_ (blk_grown (g := gb252) (o := .cells #[.string t257, .string t258, .string t259, .slice Ao17 t260.length co17, .slice Ao19 t263.length co19] 28 (0, 0)) (blk_ BK252.out) hg (Kd.N_ne HO287.out BK252.out (by decide)))
                 have n6_ := am_ (blk_grown (g := gb253) (o := .cells #[.int .i64 t266, .string t267, .string t268, .slice Ao24 t269.length co24, .slice Ao26 t272.length co26] 26 (0, 0)) (blk_ BK253.out) hg (Kd.N_away HO287.out (fun _ hk => hk.2.2.2.2.2.2)))
                 have n7_ := am_ (hb)
                 have n8_ := am_ (ho)
                 clear HO_0 HO_253003 HO_253004 HO_254003 HO_254004 BK252 BK253 HB HO287
                 have HO_0 := n0_
                 have HO_253003 := n1_
                 have HO_253004 := n2_
                 have HO_254003 := n3_
                 have HO_254004 := n4_
                 have BK252 := n5_
                 have BK253 := n6_
                 have HB := n7_
                 have HO290 := n8_
                 clear n0_ n1_ n2_ n3_ n4_ n5_ n6_ n7_ n8_ ho hb hg hat
                 refine hK.out _ _ ⟨(blk_cell BK253.out 0).trans rfl, (blk_cell BK253.out 1).trans rfl, (blk_cell BK253.out 2).trans rfl, (blk_cell BK253.out 3).trans rfl, (blk_cell BK253.out 4).trans rfl, (blk_cell BK252.out 0).trans rfl, (blk_cell BK252.out 1).trans rfl, (blk_cell BK252.out 2).trans rfl, (blk_cell BK252.out 3).trans rfl, (blk_cell BK252.out 4).trans rfl⟩ (fun hHeld => ?_)
                 clear hK K
                 refine norm_ (a' := ?_) ?_ ?_
                 rotate_left
                 ·show Act.put _ (some 90) _ = _
                  simp only [Act.put, sx_, s0_, s1_, i64_w, i32_w]
                  rfl
                 refine one_ (i := 4) (N := some 92) #[true, true, true, true, true, false, true, false, false, false, false, false, false] rfl rfl (one_of HT_.out kr_) (by decide) (fun K hK => ?_)
                 refine Kd.N_lit_step k26 _ 26 ?hg (N' := 92) ?hd (xs := ([(⟨(⟨t266, t267⟩ : S23), t268, t269, t272⟩ : S26)] : List (S26))) (inner := [.int .i64 t266, .string t267, .string t268, .slice Ao24 t269.length co24, .slice Ao26 t272.length co26]) (ok := (fun k_ => some k_ ≠ (.slice Ao30 t254.length co30 : Value).ownBlock ∧ some k_ ≠ (.slice Ao17 t260.length co17 : Value).ownBlock ∧ some k_ ≠ (.slice Ao19 t263.length co19 : Value).ownBlock ∧ some k_ ≠ (v289 : Value).ownBlock ∧ k_ ≠ gb252 ∧ k_ ≠ gb253)) (okp := (fun k_ => some k_ ≠ (.slice Ao30 t254.length co30 : Value).ownBlock ∧ some k_ ≠ (.slice Ao17 t260.length co17 : Value).ownBlock ∧ some k_ ≠ (.slice Ao19 t263.length co19 : Value).ownBlock ∧ some k_ ≠ (v289 : Value).ownBlock ∧ k_ ≠ gb252 ∧ k_ ≠ gb253)) ?hr ?hp (fun _ hk => hk) ((show ∀ k_, w70.heap.size ≤ k_ → (fun k_ => some k_ ≠ (.slice Ao30 t254.length co30 : Value).ownBlock ∧ some k_ ≠ (.slice Ao17 t260.length co17 : Value).ownBlock ∧ some k_ ≠ (.slice Ao19 t263.length co19 : Value).ownBlock ∧ some k_ ≠ (v289 : Value).ownBlock ∧ k_ ≠ gb252 ∧ k_ ≠ gb253) k_ from fun k_ hk => ⟨Kd.fresh' (Kd.N_lt (N_ HO_0.out)) k_ hk, Kd.fresh' (Kd.R_lt (R_ HO_253003.out)) k_ hk, Kd.fresh' (Kd.R_lt (R_ HO_253004.out)) k_ hk, Kd.fresh' (Kd.N_lt (N_ HO290.out)) k_ hk, Kd.freshB (g := gb252) (o := .cells #[.string t257, .string t258, .string t259, .slice Ao17 t260.length co17, .slice Ao19 t263.length co19] 28 (0, 0)) (blk_ BK252.out) k_ hk, Kd.freshB (g := gb253) (o := .cells #[.int .i64 t266, .string t267, .string t268, .slice Ao24 t269.length co24, .slice Ao26 t272.length co26] 26 (0, 0)) (blk_ BK253.out) k_ hk⟩) _ (Nat.le_refl _)) (Below.refl _ _) (Nat.le_refl _) (by simp) ?_; (case hd => rfl); (case hg => rfl); (case hr => first | (go_simp; done) | (go_simp; rfl)); (case hp => exact (Reps.c5 (show Kd.FK k26 _ _ (⟨(⟨t266, t267⟩ : S23), t268, t269, t272⟩ : S26) [.int .i64 t266, .string t267, .string t268, .slice Ao24 t269.length co24, .slice Ao26 t272.length co26] from (k26_mkF _ _ (⟨(⟨t266, t267⟩ : S23), t268, t269, t272⟩ : S26) (Kd.R_reads' (Kd.R_mono (ok' := (fun k_ => some k_ ≠ (.slice Ao30 t254.length co30 : Value).ownBlock ∧ some k_ ≠ (.slice Ao17 t260.length co17 : Value).ownBlock ∧ some k_ ≠ (.slice Ao19 t263.length co19 : Value).ownBlock ∧ some k_ ≠ (v289 : Value).ownBlock ∧ k_ ≠ gb252 ∧ k_ ≠ gb253)) (Kd.R_types (Kd.R_types (Kd.R_apart' (Kd.R_apart' (HO_254003.out) (Kd.N_typed HO_0.out) (by decide)) (Kd.N_typed HO290.out) (by decide)) BK252.out (by decide)) BK253.out (by decide)) (fun k_ hk => ⟨hk.1.1.1.2, ⟨hk.1.1.1.1.1, ⟨hk.1.1.1.1.2.1, ⟨hk.1.1.2, ⟨hk.1.2, hk.2⟩⟩⟩⟩⟩))).2.1 (Kd.R_F (Kd.R_mono (ok' := (fun k_ => some k_ ≠ (.slice Ao30 t254.length co30 : Value).ownBlock ∧ some k_ ≠ (.slice Ao17 t260.length co17 : Value).ownBlock ∧ some k_ ≠ (.slice Ao19 t263.length co19 : Value).ownBlock ∧ some k_ ≠ (v289 : Value).ownBlock ∧ k_ ≠ gb252 ∧ k_ ≠ gb253)) (Kd.R_types (Kd.R_types (Kd.R_apart' (Kd.R_apart' (HO_254003.out) (Kd.N_typed HO_0.out) (by decide)) (Kd.N_typed HO290.out) (by decide)) BK252.out (by decide)) BK253.out (by decide)) (fun k_ hk => ⟨hk.1.1.1.2, ⟨hk.1.1.1.1.1, ⟨hk.1.1.1.1.2.1, ⟨hk.1.1.2, ⟨hk.1.2, hk.2⟩⟩⟩⟩⟩))) (Kd.R_reads' (Kd.R_mono (ok' := (fun k_ => some k_ ≠ (.slice Ao30 t254.length co30 : Value).ownBlock ∧ some k_ ≠ (.slice Ao17 t260.length co17 : Value).ownBlock ∧ some k_ ≠ (.slice Ao19 t263.length co19 : Value).ownBlock ∧ some k_ ≠ (v289 : Value).ownBlock ∧ k_ ≠ gb252 ∧ k_ ≠ gb253)) (Kd.R_types (Kd.R_types (Kd.R_apart' (Kd.R_apart' (HO_254004.out) (Kd.N_typed HO_0.out) (by decide)) (Kd.N_typed HO290.out) (by decide)) BK252.out (by decide)) BK253.out (by decide)) (fun k_ hk => ⟨hk.1.1.1.2, ⟨hk.1.1.1.1.1, ⟨hk.1.1.1.1.2.1, ⟨hk.1.1.2, ⟨hk.1.2, hk.2⟩⟩⟩⟩⟩))).2.1 (Kd.R_F (Kd.R_mono (ok' := (fun k_ => some k_ ≠ (.slice Ao30 t254.length co30 : Value).ownBlock ∧ some k_ ≠ (.slice Ao17 t260.length co17 : Value).ownBlock ∧ some k_ ≠ (.slice Ao19 t263.length co19 : Value).ownBlock ∧ some k_ ≠ (v289 : Value).ownBlock ∧ k_ ≠ gb252 ∧ k_ ≠ gb253)) (Kd.R_types (Kd.R_types (Kd.R_apart' (Kd.R_apart' (HO_254004.out) (Kd.N_typed HO_0.out) (by decide)) (Kd.N_typed HO290.out) (by decide)) BK252.out (by decide)) BK253.out (by decide)) (fun k_ hk => ⟨hk.1.1.1.2, ⟨hk.1.1.1.1.1, ⟨hk.1.1.1.1.2.1, ⟨hk.1.1.2, ⟨hk.1.2, hk.2⟩⟩⟩⟩⟩))))) (Reps.none _ _)))
                 intro v292 w71 ho72 hb hg_ hnew_
                 clear hg_ hnew_
                 (first | rw [← Ny291.out] at ho72 | (simp only [Int.reduceToNat] at ho72; rw [← Ny291.out] at ho72))
                 have n0_ := am_ (Kd.N_elder' (N_ HO_0.out) (Kd.N_base ho72) hb)
                 have n1_ := am_ (Kd.R_below (R_ HO_253003.out) hb)
                 have n2_ := am_ (Kd.R_below (R_ HO_253004.out) hb)
                 have n3_ := am_ (Kd.N_elder' (N_ HO290.out) (Kd.N_base ho72) hb)
                 have n4_ := am_ (Kd.N_lower ho72 (below_size (bel_ HB.out)))
                 have n5_ := am_ (blk_below (g := gb252) (o := .cells #[.string t257, .string t258, .string t259, .slice Ao17 t260.length co17, .slice Ao19 t263.length co19] 28 (0, 0)) (blk_ BK252.out) hb)
                 have n6_ := am_ (blk_below (g := gb253) (o := .cells #[.int .i64 t266, .string t267, .string t268, .slice Ao24 t269.length co24, .slice Ao26 t272.length co26] 26 (0, 0)) (blk_ BK253.out) hb)
                 have n7_ := am_ (below_step (bel_ HB.out) hb)
                 have HO_254003 := am_ (Kd.R_below (R_ HO_254003.out) hb)
                 have HO_254004 := am_ (Kd.R_below (R_ HO_254004.out) hb)
                 clear HO_0 HO_253003 HO_253004 HO290 BK252 BK253 HB
                 have HO_0 := n0_
                 have HO_253003 := n1_
                 have HO_253004 := n2_
                 have HO290 := n3_
                 have HO293 := n4_
                 have BK252 := n5_
                 have BK253 := n6_
                 have HB := n7_
                 clear n0_ n1_ n2_ n3_ n4_ n5_ n6_ n7_ hb ho72
                 refine hK.out _ _ ⟨(blk_cell BK253.out 0).trans rfl, (blk_cell BK253.out 1).trans rfl, (blk_cell BK253.out 2).trans rfl, (blk_cell BK253.out 3).trans rfl, (blk_cell BK253.out 4).trans rfl, (blk_cell BK252.out 0).trans rfl, (blk_cell BK252.out 1).trans rfl, (blk_cell BK252.out 2).trans rfl, (blk_cell BK252.out 3).trans rfl, (blk_cell BK252.out 4).trans rfl⟩ (fun hHeld => ?_)
                 clear hK K
                 refine norm_ (a' := ?_) ?_ ?_
                 rotate_left
                 ·show Act.put _ (some 92) _ = _
                  simp only [Act.put, sx_, s0_, s1_, i64_w, i32_w]
                  rfl
                 exact norm_ (by simp only [putAll, Act.put, List.setIfInBounds_toArray, List.set_cons_zero, List.set_cons_succ]) (hCont (v286, v289, v292) _ ⟨hHeld, (by (with_reducible repeat (first | apply Kd.N_alloc | apply Kd.N_drewN | apply Kd.N_drew)); exact Kd.N_mono HO290.out (fun _ hk => ⟨hk.2, ⟨hk.1.1, ⟨hk.1.2.1, ⟨hk.1.2.2.2.2.1, hk.1.2.2.2.2.2⟩⟩⟩⟩)), (by (with_reducible repeat (first | apply Kd.N_alloc | apply Kd.N_drewN | apply Kd.N_drew)); exact Kd.N_mono HO293.out (fun _ hk => ⟨hk.2.2.2.1, ⟨hk.1, ⟨hk.2.1, ⟨hk.2.2.1, ⟨hk.2.2.2.2.1, hk.2.2.2.2.2⟩⟩⟩⟩⟩)), (by (with_reducible repeat (first | apply Kd.N_alloc | apply Kd.N_drewN | apply Kd.N_drew)); exact Kd.N_mono HO_0.out (fun _ hk => ⟨hk.1.2, ⟨hk.2, ⟨hk.1.1.1, ⟨hk.1.1.2.1, ⟨hk.1.1.2.2.2.2.1, hk.1.1.2.2.2.2.2⟩⟩⟩⟩⟩)), (by (with_reducible repeat (first | apply Kd.R_alloc | apply Kd.R_drewN | apply Kd.R_drew)); exact Kd.R_mono HO_253003.out (fun _ hk => hk.1)), (by (with_reducible repeat (first | apply Kd.R_alloc | apply Kd.R_drewN | apply Kd.R_drew)); exact Kd.R_mono HO_253004.out (fun _ hk => hk.1)), (blk_ BK252.out), (blk_ BK253.out), (bel_ HB.out), (by (with_reducible repeat (first | apply Kd.R_alloc | apply Kd.R_drewN | apply Kd.R_drew)); exact Kd.R_mono HO_254003.out (fun _ _ => trivial)), (by (with_reducible repeat (first | apply Kd.R_alloc | apply Kd.R_drewN | apply Kd.R_drew)); exact Kd.R_mono HO_254004.out (fun _ _ => trivial))⟩)
                ·skip
                 refine Kd.N_lit_step k26 _ 26 ?hg (N' := 92) ?hd (xs := ([(⟨(⟨t266, t267⟩ : S23), t268, t269, t272⟩ : S26)] : List (S26))) (inner := [.int .i64 t266, .string t267, .string t268, .slice Ao24 t269.length co24, .slice Ao26 t272.length co26]) (ok := (fun k_ => some k_ ≠ (.slice Ao30 t254.length co30 : Value).ownBlock ∧ some k_ ≠ (.slice Ao17 t260.length co17 : Value).ownBlock ∧ some k_ ≠ (.slice Ao19 t263.length co19 : Value).ownBlock ∧ some k_ ≠ (v286 : Value).ownBlock ∧ k_ ≠ gb252 ∧ k_ ≠ gb253)) (okp := (fun k_ => some k_ ≠ (.slice Ao30 t254.length co30 : Value).ownBlock ∧ some k_ ≠ (.slice Ao17 t260.length co17 : Value).ownBlock ∧ some k_ ≠ (.slice Ao19 t263.length co19 : Value).ownBlock ∧ some k_ ≠ (v286 : Value).ownBlock ∧ k_ ≠ gb252 ∧ k_ ≠ gb253)) ?hr ?hp (fun _ hk => hk) ((show ∀ k_, w68.heap.size ≤ k_ → (fun k_ => some k_ ≠ (.slice Ao30 t254.length co30 : Value).ownBlock ∧ some k_ ≠ (.slice Ao17 t260.length co17 : Value).ownBlock ∧ some k_ ≠ (.slice Ao19 t263.length co19 : Value).ownBlock ∧ some k_ ≠ (v286 : Value).ownBlock ∧ k_ ≠ gb252 ∧ k_ ≠ gb253) k_ from fun k_ hk => ⟨Kd.fresh' (Kd.N_lt (N_ HO_0.out)) k_ hk, Kd.fresh' (Kd.R_lt (R_ HO_253003.out)) k_ hk, Kd.fresh' (Kd.R_lt (R_ HO_253004.out)) k_ hk, Kd.fresh' (Kd.N_lt (N_ HO287.out)) k_ hk, Kd.freshB (g := gb252) (o := .cells #[.string t257, .string t258, .string t259, .slice Ao17 t260.length co17, .slice Ao19 t263.length co19] 28 (0, 0)) (blk_ BK252.out) k_ hk, Kd.freshB (g := gb253) (o := .cells #[.int .i64 t266, .string t267, .string t268, .slice Ao24 t269.length co24, .slice Ao26 t272.length co26] 26 (0, 0)) (blk_ BK253.out) k_ hk⟩) _ (Nat.le_refl _)) (Below.refl _ _) (Nat.le_refl _) (by simp) ?_; (case hd => rfl); (case hg => rfl); (case hr => first | (go_simp; done) | (go_simp; rfl)); (case hp => exact (Reps.c5 (show Kd.FK k26 _ _ (⟨(⟨t266, t267⟩ : S23), t268, t269, t272⟩ : S26) [.int .i64 t266, .string t267, .string t268, .slice Ao24 t269.length co24, .slice Ao26 t272.length co26] from (k26_mkF _ _ (⟨(⟨t266, t267⟩ : S23), t268, t269, t272⟩ : S26) (Kd.R_reads' (Kd.R_mono (ok' := (fun k_ => some k_ ≠ (.slice Ao30 t254.length co30 : Value).ownBlock ∧ some k_ ≠ (.slice Ao17 t260.length co17 : Value).ownBlock ∧ some k_ ≠ (.slice Ao19 t263.length co19 : Value).ownBlock ∧ some k_ ≠ (v286 : Value).ownBlock ∧ k_ ≠ gb252 ∧ k_ ≠ gb253)) (Kd.R_types (Kd.R_types (Kd.R_apart' (Kd.R_apart' (HO_254003.out) (Kd.N_typed HO_0.out) (by decide)) (Kd.N_typed HO287.out) (by decide)) BK252.out (by decide)) BK253.out (by decide)) (fun k_ hk => ⟨hk.1.1.1.2, ⟨hk.1.1.1.1.1, ⟨hk.1.1.1.1.2.1, ⟨hk.1.1.2, ⟨hk.1.2, hk.2⟩⟩⟩⟩⟩))).2.1 (Kd.R_F (Kd.R_mono (ok' := (fun k_ => some k_ ≠ (.slice Ao30 t254.length co30 : Value).ownBlock ∧ some k_ ≠ (.slice Ao17 t260.length co17 : Value).ownBlock ∧ some k_ ≠ (.slice Ao19 t263.length co19 : Value).ownBlock ∧ some k_ ≠ (v286 : Value).ownBlock ∧ k_ ≠ gb252 ∧ k_ ≠ gb253)) (Kd.R_types (Kd.R_types (Kd.R_apart' (Kd.R_apart' (HO_254003.out) (Kd.N_typed HO_0.out) (by decide)) (Kd.N_typed HO287.out) (by decide)) BK252.out (by decide)) BK253.out (by decide)) (fun k_ hk => ⟨hk.1.1.1.2, ⟨hk.1.1.1.1.1, ⟨hk.1.1.1.1.2.1, ⟨hk.1.1.2, ⟨hk.1.2, hk.2⟩⟩⟩⟩⟩))) (Kd.R_reads' (Kd.R_mono (ok' := (fun k_ => some k_ ≠ (.slice Ao30 t254.length co30 : Value).ownBlock ∧ some k_ ≠ (.slice Ao17 t260.length co17 : Value).ownBlock ∧ some k_ ≠ (.slice Ao19 t263.length co19 : Value).ownBlock ∧ some k_ ≠ (v286 : Value).ownBlock ∧ k_ ≠ gb252 ∧ k_ ≠ gb253)) (Kd.R_types (Kd.R_types (Kd.R_apart' (Kd.R_apart' (HO_254004.out) (Kd.N_typed HO_0.out) (by decide)) (Kd.N_typed HO287.out) (by decide)) BK252.out (by decide)) BK253.out (by decide)) (fun k_ hk => ⟨hk.1.1.1.2, ⟨hk.1.1.1.1.1, ⟨hk.1.1.1.1.2.1, ⟨hk.1.1.2, ⟨hk.1.2, hk.2⟩⟩⟩⟩⟩))).2.1 (Kd.R_F (Kd.R_mono (ok' := (fun k_ => some k_ ≠ (.slice Ao30 t254.length co30 : Value).ownBlock ∧ some k_ ≠ (.slice Ao17 t260.length co17 : Value).ownBlock ∧ some k_ ≠ (.slice Ao19 t263.length co19 : Value).ownBlock ∧ some k_ ≠ (v286 : Value).ownBlock ∧ k_ ≠ gb252 ∧ k_ ≠ gb253)) (Kd.R_types (Kd.R_types (Kd.R_apart' (Kd.R_apart' (HO_254004.out) (Kd.N_typed HO_0.out) (by decide)) (Kd.N_typed HO287.out) (by decide)) BK252.out (by decide)) BK253.out (by decide)) (fun k_ hk => ⟨hk.1.1.1.2, ⟨hk.1.1.1.1.1, ⟨hk.1.1.1.1.2.1, ⟨hk.1.1.2, ⟨hk.1.2, hk.2⟩⟩⟩⟩⟩))))) (Reps.none _ _)))
                 intro v292 w70 ho71 hb hg_ hnew_
                 clear hg_ hnew_
                 (first | rw [← Ny291.out] at ho71 | (simp only [Int.reduceToNat] at ho71; rw [← Ny291.out] at ho71))
                 have n0_ := am_ (Kd.N_elder' (N_ HO_0.out) (Kd.N_base ho71) hb)
                 have n1_ := am_ (Kd.R_below (R_ HO_253003.out) hb)
                 have n2_ := am_ (Kd.R_below (R_ HO_253004.out) hb)
                 have n3_ := am_ (Kd.N_elder' (N_ HO287.out) (Kd.N_base ho71) hb)
                 have n4_ := am_ (Kd.N_lower ho71 (below_size (bel_ HB.out)))
                 have n5_ := am_ (blk_below (g := gb252) (o := .cells #[.string t257, .string t258, .string t259, .slice Ao17 t260.length co17, .slice Ao19 t263.length co19] 28 (0, 0)) (blk_ BK252.out) hb)
                 have n6_ := am_ (blk_below (g := gb253) (o := .cells #[.int .i64 t266, .string t267, .string t268, .slice Ao24 t269.length co24, .slice Ao26 t272.length co26] 26 (0, 0)) (blk_ BK253.out) hb)
                 have n7_ := am_ (below_step (bel_ HB.out) hb)
                 have HO_254003 := am_ (Kd.R_below (R_ HO_254003.out) hb)
                 have HO_254004 := am_ (Kd.R_below (R_ HO_254004.out) hb)
                 clear HO_0 HO_253003 HO_253004 HO287 BK252 BK253 HB
                 have HO_0 := n0_
                 have HO_253003 := n1_
                 have HO_253004 := n2_
                 have HO287 := n3_
                 have HO293 := n4_
                 have BK252 := n5_
                 have BK253 := n6_
                 have HB := n7_
                 clear n0_ n1_ n2_ n3_ n4_ n5_ n6_ n7_ hb ho71
                 refine hK.out _ _ ⟨(blk_cell BK253.out 0).trans rfl, (blk_cell BK253.out 1).trans rfl, (blk_cell BK253.out 2).trans rfl, (blk_cell BK253.out 3).trans rfl, (blk_cell BK253.out 4).trans rfl, (blk_cell BK252.out 0).trans rfl, (blk_cell BK252.out 1).trans rfl, (blk_cell BK252.out 2).trans rfl, (blk_cell BK252.out 3).trans rfl, (blk_cell BK252.out 4).trans rfl⟩ (fun hHeld => ?_)
                 clear hK K
                 refine norm_ (a' := ?_) ?_ ?_
                 rotate_left
                 ·show Act.put _ (some 92) _ = _
                  simp only [Act.put, sx_, s0_, s1_, i64_w, i32_w]
                  rfl
                 refine one_ (i := 2) (N := some 90) #[true, true, true, true, true, false, true, false, false, false, false, false, false] rfl rfl (one_of HT_.out kr_) (by decide) (fun K hK => ?_)
                 refine Kd.N_append_rows_step k26 (w0 := w) w.heap.size (by rfl) (.tmp 88) (.tmp 89) 39 26 (.agg #[(.int .i64 0), (.string ⟨#[]⟩), (.string ⟨#[]⟩), (.slice none 0 0), (.slice none 0 0)]) 88 rfl Tryd.underlying39 info26 rfl (by decide) (by omega) v286 y285 t254 _ _ _ (fun k_ => some k_ ≠ (.slice Ao17 t260.length co17 : Value).ownBlock ∧ some k_ ≠ (.slice Ao19 t263.length co19 : Value).ownBlock ∧ some k_ ≠ (v292 : Value).ownBlock ∧ k_ ≠ gb252 ∧ k_ ≠ gb253) (fun k_ => ((fun k_ => some k_ ≠ (.slice Ao17 t260.length co17 : Value).ownBlock ∧ some k_ ≠ (.slice Ao19 t263.length co19 : Value).ownBlock ∧ some k_ ≠ (v292 : Value).ownBlock ∧ k_ ≠ gb252 ∧ k_ ≠ gb253)) k_ ∧ some k_ ≠ (v286 : Value).ownBlock) rfl rfl ?aO ?aR (fun _ hk => hk) ?aF ?aB ?aS ?aL ?_
                 (case aR => exact (by skip; exact Kd.N_F (Kd.N_mono (ok' := (fun k_ => ((fun k_ => some k_ ≠ (.slice Ao17 t260.length co17 : Value).ownBlock ∧ some k_ ≠ (.slice Ao19 t263.length co19 : Value).ownBlock ∧ some k_ ≠ (v292 : Value).ownBlock ∧ k_ ≠ gb252 ∧ k_ ≠ gb253)) k_ ∧ some k_ ≠ (v286 : Value).ownBlock)) (HO_0.out) (fun k_ hk => ⟨⟨hk.1.1.1, ⟨hk.1.1.2.1, ⟨hk.2, ⟨hk.1.1.2.2.2.2.1, hk.1.1.2.2.2.2.2⟩⟩⟩⟩, hk.1.2⟩))))
                 (case aB => exact (bel_ HB.out))
                 (case aF => exact (fun k_ hk => ⟨Kd.fresh' (Kd.R_lt (R_ HO_253003.out)) k_ hk, Kd.fresh' (Kd.R_lt (R_ HO_253004.out)) k_ hk, Kd.fresh' (Kd.N_lt (N_ HO293.out)) k_ hk, Kd.freshB (g := gb252) (o := .cells #[.string t257, .string t258, .string t259, .slice Ao17 t260.length co17, .slice Ao19 t263.length co19] 28 (0, 0)) (blk_ BK252.out) k_ hk, Kd.freshB (g := gb253) (o := .cells #[.int .i64 t266, .string t267, .string t268, .slice Ao24 t269.length co24, .slice Ao26 t272.length co26] 26 (0, 0)) (blk_ BK253.out) k_ hk⟩))
                 (case aO => exact (by (with_reducible repeat (first | apply Kd.N_alloc | apply Kd.N_drewN | apply Kd.N_drew)); exact Kd.N_mono HO287.out (fun _ hk => ⟨hk.1.2.1, ⟨hk.1.2.2.1, ⟨hk.2, ⟨hk.1.2.2.2.2.2.1, hk.1.2.2.2.2.2.2⟩⟩⟩⟩)))
                 (case aS => exact (below_size (bel_ HB.out)))
                 (case aL => have := LMc58.out; omega)
                 intro v289 w72 ho hb hg hat
                 rw [← Ny288.out] at ho
                 have n0_ := am_ (Kd.N_afterv (ok := (fun k_ => some k_ ≠ (.slice Ao17 t260.length co17 : Value).ownBlock ∧ some k_ ≠ (.slice Ao19 t263.length co19 : Value).ownBlock ∧ some k_ ≠ (v292 : Value).ownBlock ∧ k_ ≠ gb252 ∧ k_ ≠ gb253)) (by (with_reducible repeat (first | apply Kd.N_alloc | apply Kd.N_drewN | apply Kd.N_drew)); exact Kd.N_mono HO_0.out (fun _ hk => ⟨⟨hk.1.1.1, ⟨hk.1.1.2.1, ⟨hk.2, ⟨hk.1.1.2.2.2.2.1, hk.1.1.2.2.2.2.2⟩⟩⟩⟩, hk.1.2⟩)) hg hat)
                 have n1_ := am_ (Kd.R_over' (R_ HO_253003.out) (Kd.N_typed (N_ HO287.out)) (by decide) hg)
                 have n2_ := am_ (Kd.R_over' (R_ HO_253004.out) (Kd.N_typed (N_ HO287.out)) (by decide) hg)
                 have n3_ := am_ (blk_grown (g := gb252) (o := .cells #[.string t257, .string t258, .string t259, .slice Ao17 t260.length co17, .slice Ao19 t263.length co19] 28 (0, 0)) (blk_ BK252.out) hg (Kd.N_ne HO287.out BK252.out (by decide)))
                 have n4_ := am_ (blk_grown (g := gb253) (o := .cells #[.int .i64 t266, .string t267, .string t268, .slice Ao24 t269.length co24, .slice Ao26 t272.length co26] 26 (0, 0)) (blk_ BK253.out) hg (Kd.N_away HO287.out (fun _ hk => hk.1.2.2.2.2.2.2)))
                 have n5_ := am_ (Kd.N_afterv (ok := (fun k_ => some k_ ≠ (.slice Ao30 t254.length co30 : Value).ownBlock ∧ some k_ ≠ (.slice Ao17 t260.length co17 : Value).ownBlock ∧ some k_ ≠ (.slice Ao19 t263.length co19 : Value).ownBlock ∧ k_ ≠ gb252 ∧ k_ ≠ gb253)) (by (with_reducible repeat (first | apply Kd.N_alloc | apply Kd.N_drewN | apply Kd.N_drew)); exact Kd.N_mono HO293.out (fun _ hk => ⟨⟨hk.1, ⟨hk.2.1, ⟨hk.2.2.1, ⟨hk.2.2.2.2.1, hk.2.2.2.2.2⟩⟩⟩⟩, hk.2.2.2.1⟩)) hg hat)
                 have n6_ := am_ (hb)
                 have n7_ := am_ (ho)
                 have HO_254003 := am_ (Kd.R_over' (R_ HO_254003.out) (Kd.N_typed (N_ HO287.out)) (by decide) hg)
                 have HO_254004 := am_ (Kd.R_over' (R_ HO_254004.out) (Kd.N_typed (N_ HO287.out)) (by decide) hg)
                 clear HO_0 HO_253003 HO_253004 BK252 BK253 HO293 HB HO287
                 have HO_0 := n0_
                 have HO_253003 := n1_
                 have HO_253004 := n2_
                 have BK252 := n3_
                 have BK253 := n4_
                 have HO293 := n5_
                 have HB := n6_
                 have HO290 := n7_
                 clear n0_ n1_ n2_ n3_ n4_ n5_ n6_ n7_ ho hb hg hat
                 refine hK.out _ _ ⟨(blk_cell BK253.out 0).trans rfl, (blk_cell BK253.out 1).trans rfl, (blk_cell BK253.out 2).trans rfl, (blk_cell BK253.out 3).trans rfl, (blk_cell BK253.out 4).trans rfl, (blk_cell BK252.out 0).trans rfl, (blk_cell BK252.out 1).trans rfl, (blk_cell BK252.out 2).trans rfl, (blk_cell BK252.out 3).trans rfl, (blk_cell BK252.out 4).trans rfl⟩ (fun hHeld => ?_)
                 clear hK K
                 refine norm_ (a' := ?_) ?_ ?_
                 rotate_left
                 ·show Act.put _ (some 90) _ = _
                  simp only [Act.put, sx_, s0_, s1_, i64_w, i32_w]
                  rfl
                 exact norm_ (by simp only [putAll, Act.put, List.setIfInBounds_toArray, List.set_cons_zero, List.set_cons_succ]) (hCont (v286, v289, v292) _ ⟨hHeld, (by (with_reducible repeat (first | apply Kd.N_alloc | apply Kd.N_drewN | apply Kd.N_drew)); exact Kd.N_mono HO290.out (fun _ hk => ⟨hk.2.2.1, ⟨hk.1, ⟨hk.2.1, ⟨hk.2.2.2.1, hk.2.2.2.2⟩⟩⟩⟩)), (by (with_reducible repeat (first | apply Kd.N_alloc | apply Kd.N_drewN | apply Kd.N_drew)); exact Kd.N_mono HO293.out (fun _ hk => ⟨hk.2, ⟨hk.1.1, ⟨hk.1.2.1, ⟨hk.1.2.2.1, ⟨hk.1.2.2.2.1, hk.1.2.2.2.2⟩⟩⟩⟩⟩)), (by (with_reducible repeat (first | apply Kd.N_alloc | apply Kd.N_drewN | apply Kd.N_drew)); exact Kd.N_mono HO_0.out (fun _ hk => ⟨hk.2, ⟨hk.1.2.2.1, ⟨hk.1.1, ⟨hk.1.2.1, ⟨hk.1.2.2.2.1, hk.1.2.2.2.2⟩⟩⟩⟩⟩)), (by (with_reducible repeat (first | apply Kd.R_alloc | apply Kd.R_drewN | apply Kd.R_drew)); exact Kd.R_mono HO_253003.out (fun _ hk => hk.1)), (by (with_reducible repeat (first | apply Kd.R_alloc | apply Kd.R_drewN | apply Kd.R_drew)); exact Kd.R_mono HO_253004.out (fun _ hk => hk.1)), (blk_ BK252.out), (blk_ BK253.out), (bel_ HB.out), (by (with_reducible repeat (first | apply Kd.R_alloc | apply Kd.R_drewN | apply Kd.R_drew)); exact Kd.R_mono HO_254003.out (fun _ _ => trivial)), (by (with_reducible repeat (first | apply Kd.R_alloc | apply Kd.R_drewN | apply Kd.R_drew)); exact Kd.R_mono HO_254004.out (fun _ _ => trivial))⟩)
               ·skip
                refine Kd.N_lit_step k26 _ 26 ?hg (N' := 92) ?hd (xs := ([(⟨(⟨t266, t267⟩ : S23), t268, t269, t272⟩ : S26)] : List (S26))) (inner := [.int .i64 t266, .string t267, .string t268, .slice Ao24 t269.length co24, .slice Ao26 t272.length co26]) (ok := (fun k_ => some k_ ≠ (.slice Ao30 t254.length co30 : Value).ownBlock ∧ some k_ ≠ (.slice Ao17 t260.length co17 : Value).ownBlock ∧ some k_ ≠ (.slice Ao19 t263.length co19 : Value).ownBlock ∧ k_ ≠ gb252 ∧ k_ ≠ gb253)) (okp := (fun k_ => some k_ ≠ (.slice Ao30 t254.length co30 : Value).ownBlock ∧ some k_ ≠ (.slice Ao17 t260.length co17 : Value).ownBlock ∧ some k_ ≠ (.slice Ao19 t263.length co19 : Value).ownBlock ∧ k_ ≠ gb252 ∧ k_ ≠ gb253)) ?hr ?hp (fun _ hk => hk) ((show ∀ k_, w67.heap.size ≤ k_ → (fun k_ => some k_ ≠ (.slice Ao30 t254.length co30 : Value).ownBlock ∧ some k_ ≠ (.slice Ao17 t260.length co17 : Value).ownBlock ∧ some k_ ≠ (.slice Ao19 t263.length co19 : Value).ownBlock ∧ k_ ≠ gb252 ∧ k_ ≠ gb253) k_ from fun k_ hk => ⟨Kd.fresh' (Kd.N_lt (N_ HO_0.out)) k_ hk, Kd.fresh' (Kd.R_lt (R_ HO_253003.out)) k_ hk, Kd.fresh' (Kd.R_lt (R_ HO_253004.out)) k_ hk, Kd.freshB (g := gb252) (o := .cells #[.string t257, .string t258, .string t259, .slice Ao17 t260.length co17, .slice Ao19 t263.length co19] 28 (0, 0)) (blk_ BK252.out) k_ hk, Kd.freshB (g := gb253) (o := .cells #[.int .i64 t266, .string t267, .string t268, .slice Ao24 t269.length co24, .slice Ao26 t272.length co26] 26 (0, 0)) (blk_ BK253.out) k_ hk⟩) _ (Nat.le_refl _)) (Below.refl _ _) (Nat.le_refl _) (by simp) ?_; (case hd => rfl); (case hg => rfl); (case hr => first | (go_simp; done) | (go_simp; rfl)); (case hp => exact (Reps.c5 (show Kd.FK k26 _ _ (⟨(⟨t266, t267⟩ : S23), t268, t269, t272⟩ : S26) [.int .i64 t266, .string t267, .string t268, .slice Ao24 t269.length co24, .slice Ao26 t272.length co26] from (k26_mkF _ _ (⟨(⟨t266, t267⟩ : S23), t268, t269, t272⟩ : S26) (Kd.R_reads' (Kd.R_mono (ok' := (fun k_ => some k_ ≠ (.slice Ao30 t254.length co30 : Value).ownBlock ∧ some k_ ≠ (.slice Ao17 t260.length co17 : Value).ownBlock ∧ some k_ ≠ (.slice Ao19 t263.length co19 : Value).ownBlock ∧ k_ ≠ gb252 ∧ k_ ≠ gb253)) (Kd.R_types (Kd.R_types (Kd.R_apart' (HO_254003.out) (Kd.N_typed HO_0.out) (by decide)) BK252.out (by decide)) BK253.out (by decide)) (fun k_ hk => ⟨hk.1.1.2, ⟨hk.1.1.1.1, ⟨hk.1.1.1.2.1, ⟨hk.1.2, hk.2⟩⟩⟩⟩))).2.1 (Kd.R_F (Kd.R_mono (ok' := (fun k_ => some k_ ≠ (.slice Ao30 t254.length co30 : Value).ownBlock ∧ some k_ ≠ (.slice Ao17 t260.length co17 : Value).ownBlock ∧ some k_ ≠ (.slice Ao19 t263.length co19 : Value).ownBlock ∧ k_ ≠ gb252 ∧ k_ ≠ gb253)) (Kd.R_types (Kd.R_types (Kd.R_apart' (HO_254003.out) (Kd.N_typed HO_0.out) (by decide)) BK252.out (by decide)) BK253.out (by decide)) (fun k_ hk => ⟨hk.1.1.2, ⟨hk.1.1.1.1, ⟨hk.1.1.1.2.1, ⟨hk.1.2, hk.2⟩⟩⟩⟩))) (Kd.R_reads' (Kd.R_mono (ok' := (fun k_ => some k_ ≠ (.slice Ao30 t254.length co30 : Value).ownBlock ∧ some k_ ≠ (.slice Ao17 t260.length co17 : Value).ownBlock ∧ some k_ ≠ (.slice Ao19 t263.length co19 : Value).ownBlock ∧ k_ ≠ gb252 ∧ k_ ≠ gb253)) (Kd.R_types (Kd.R_types (Kd.R_apart' (HO_254004.out) (Kd.N_typed HO_0.out) (by decide)) BK252.out (by decide)) BK253.out (by decide)) (fun k_ hk => ⟨hk.1.1.2, ⟨hk.1.1.1.1, ⟨hk.1.1.1.2.1, ⟨hk.1.2, hk.2⟩⟩⟩⟩))).2.1 (Kd.R_F (Kd.R_mono (ok' := (fun k_ => some k_ ≠ (.slice Ao30 t254.length co30 : Value).ownBlock ∧ some k_ ≠ (.slice Ao17 t260.length co17 : Value).ownBlock ∧ some k_ ≠ (.slice Ao19 t263.length co19 : Value).ownBlock ∧ k_ ≠ gb252 ∧ k_ ≠ gb253)) (Kd.R_types (Kd.R_types (Kd.R_apart' (HO_254004.out) (Kd.N_typed HO_0.out) (by decide)) BK252.out (by decide)) BK253.out (by decide)) (fun k_ hk => ⟨hk.1.1.2, ⟨hk.1.1.1.1, ⟨hk.1.1.1.2.1, ⟨hk.1.2, hk.2⟩⟩⟩⟩))))) (Reps.none _ _)))
                intro v292 w68 ho69 hb hg_ hnew_
                clear hg_ hnew_
                (first | rw [← Ny291.out] at ho69 | (simp only [Int.reduceToNat] at ho69; rw [← Ny291.out] at ho69))
                have n0_ := am_ (Kd.N_elder' (N_ HO_0.out) (Kd.N_base ho69) hb)
                have n1_ := am_ (Kd.R_below (R_ HO_253003.out) hb)
                have n2_ := am_ (Kd.R_below (R_ HO_253004.out) hb)
                have n3_ := am_ (Kd.N_lower ho69 (below_size (bel_ HB.out)))
                have n4_ := am_ (blk_below (g := gb252) (o := .cells #[.string t257, .string t258, .string t259, .slice Ao17 t260.length co17, .slice Ao19 t263.length co19] 28 (0, 0)) (blk_ BK252.out) hb)
                have n5_ := am_ (blk_below (g := gb253) (o := .cells #[.int .i64 t266, .string t267, .string t268, .slice Ao24 t269.length co24, .slice Ao26 t272.length co26] 26 (0, 0)) (blk_ BK253.out) hb)
                have n6_ := am_ (below_step (bel_ HB.out) hb)
                have HO_254003 := am_ (Kd.R_below (R_ HO_254003.out) hb)
                have HO_254004 := am_ (Kd.R_below (R_ HO_254004.out) hb)
                clear HO_0 HO_253003 HO_253004 BK252 BK253 HB
                have HO_0 := n0_
                have HO_253003 := n1_
                have HO_253004 := n2_
                have HO293 := n3_
                have BK252 := n4_
                have BK253 := n5_
                have HB := n6_
                clear n0_ n1_ n2_ n3_ n4_ n5_ n6_ hb ho69
                refine hK.out _ _ ⟨(blk_cell BK253.out 0).trans rfl, (blk_cell BK253.out 1).trans rfl, (blk_cell BK253.out 2).trans rfl, (blk_cell BK253.out 3).trans rfl, (blk_cell BK253.out 4).trans rfl, (blk_cell BK252.out 0).trans rfl, (blk_cell BK252.out 1).trans rfl, (blk_cell BK252.out 2).trans rfl, (blk_cell BK252.out 3).trans rfl, (blk_cell BK252.out 4).trans rfl⟩ (fun hHeld => ?_)
                clear hK K
                refine norm_ (a' := ?_) ?_ ?_
                rotate_left
                ·show Act.put _ (some 92) _ = _
                 simp only [Act.put, sx_, s0_, s1_, i64_w, i32_w]
                 rfl
                refine one_ (i := 0) (N := some 88) #[true, true, false, true, true, false, true, false, false, false, false, false, false] rfl rfl (one_of HT_.out kr_) (by decide) (fun K hK => ?_)
                refine Kd.N_lit_step k26 _ 26 ?hg (N' := 88) ?hd (xs := ([] : List (S26))) (inner := []) (ok := (fun k_ => some k_ ≠ (.slice Ao30 t254.length co30 : Value).ownBlock ∧ some k_ ≠ (.slice Ao17 t260.length co17 : Value).ownBlock ∧ some k_ ≠ (.slice Ao19 t263.length co19 : Value).ownBlock ∧ some k_ ≠ (v292 : Value).ownBlock ∧ k_ ≠ gb252 ∧ k_ ≠ gb253)) (okp := (fun k_ => some k_ ≠ (.slice Ao30 t254.length co30 : Value).ownBlock ∧ some k_ ≠ (.slice Ao17 t260.length co17 : Value).ownBlock ∧ some k_ ≠ (.slice Ao19 t263.length co19 : Value).ownBlock ∧ some k_ ≠ (v292 : Value).ownBlock ∧ k_ ≠ gb252 ∧ k_ ≠ gb253)) ?hr ?hp (fun _ hk => hk) ((show ∀ k_, w68.heap.size ≤ k_ → (fun k_ => some k_ ≠ (.slice Ao30 t254.length co30 : Value).ownBlock ∧ some k_ ≠ (.slice Ao17 t260.length co17 : Value).ownBlock ∧ some k_ ≠ (.slice Ao19 t263.length co19 : Value).ownBlock ∧ some k_ ≠ (v292 : Value).ownBlock ∧ k_ ≠ gb252 ∧ k_ ≠ gb253) k_ from fun k_ hk => ⟨Kd.fresh' (Kd.N_lt (N_ HO_0.out)) k_ hk, Kd.fresh' (Kd.R_lt (R_ HO_253003.out)) k_ hk, Kd.fresh' (Kd.R_lt (R_ HO_253004.out)) k_ hk, Kd.fresh' (Kd.N_lt (N_ HO293.out)) k_ hk, Kd.freshB (g := gb252) (o := .cells #[.string t257, .string t258, .string t259, .slice Ao17 t260.length co17, .slice Ao19 t263.length co19] 28 (0, 0)) (blk_ BK252.out) k_ hk, Kd.freshB (g := gb253) (o := .cells #[.int .i64 t266, .string t267, .string t268, .slice Ao24 t269.length co24, .slice Ao26 t272.length co26] 26 (0, 0)) (blk_ BK253.out) k_ hk⟩) _ (Nat.le_refl _)) (Below.refl _ _) (Nat.le_refl _) (by simp) ?_; (case hd => rfl); (case hg => rfl); (case hr => first | (go_simp; done) | (go_simp; rfl)); (case hp => exact (Reps.none _ _))
                intro v286 w70 ho71 hb hg_ hnew_
                clear hg_ hnew_
                (first | rw [← Ny285.out] at ho71 | (simp only [Int.reduceToNat] at ho71; rw [← Ny285.out] at ho71))
                have n0_ := am_ (Kd.N_elder' (N_ HO_0.out) (Kd.N_base ho71) hb)
                have n1_ := am_ (Kd.R_below (R_ HO_253003.out) hb)
                have n2_ := am_ (Kd.R_below (R_ HO_253004.out) hb)
                have n3_ := am_ (Kd.N_elder' (N_ HO293.out) (Kd.N_base ho71) hb)
                have n4_ := am_ (Kd.N_lower ho71 (below_size (bel_ HB.out)))
                have n5_ := am_ (blk_below (g := gb252) (o := .cells #[.string t257, .string t258, .string t259, .slice Ao17 t260.length co17, .slice Ao19 t263.length co19] 28 (0, 0)) (blk_ BK252.out) hb)
                have n6_ := am_ (blk_below (g := gb253) (o := .cells #[.int .i64 t266, .string t267, .string t268, .slice Ao24 t269.length co24, .slice Ao26 t272.length co26] 26 (0, 0)) (blk_ BK253.out) hb)
                have n7_ := am_ (below_step (bel_ HB.out) hb)
                have HO_254003 := am_ (Kd.R_below (R_ HO_254003.out) hb)
                have HO_254004 := am_ (Kd.R_below (R_ HO_254004.out) hb)
                clear HO_0 HO_253003 HO_253004 HO293 BK252 BK253 HB
                have HO_0 := n0_
                have HO_253003 := n1_
                have HO_253004 := n2_
                have HO293 := n3_
                have HO287 := n4_
                have BK252 := n5_
                have BK253 := n6_
                have HB := n7_
                clear n0_ n1_ n2_ n3_ n4_ n5_ n6_ n7_ hb ho71
                refine hK.out _ _ ⟨(blk_cell BK253.out 0).trans rfl, (blk_cell BK253.out 1).trans rfl, (blk_cell BK253.out 2).trans rfl, (blk_cell BK253.out 3).trans rfl, (blk_cell BK253.out 4).trans rfl, (blk_cell BK252.out 0).trans rfl, (blk_cell BK252.out 1).trans rfl, (blk_cell BK252.out 2).trans rfl, (blk_cell BK252.out 3).trans rfl, (blk_cell BK252.out 4).trans rfl⟩ (fun hHeld => ?_)
                clear hK K
                refine norm_ (a' := ?_) ?_ ?_
                rotate_left
                ·show Act.put _ (some 88) _ = _
                 simp only [Act.put, sx_, s0_, s1_, i64_w, i32_w]
                 rfl
                refine one_ (i := 2) (N := some 90) #[true, true, true, true, true, false, true, false, false, false, false, false, false] rfl rfl (one_of HT_.out kr_) (by decide) (fun K hK => ?_)
                refine Kd.N_append_rows_step k26 (w0 := w) w.heap.size (by rfl) (.tmp 88) (.tmp 89) 39 26 (.agg #[(.int .i64 0), (.string ⟨#[]⟩), (.string ⟨#[]⟩), (.slice none 0 0), (.slice none 0 0)]) 88 rfl Tryd.underlying39 info26 rfl (by decide) (by omega) v286 y285 t254 _ _ _ (fun k_ => some k_ ≠ (.slice Ao17 t260.length co17 : Value).ownBlock ∧ some k_ ≠ (.slice Ao19 t263.length co19 : Value).ownBlock ∧ some k_ ≠ (v292 : Value).ownBlock ∧ k_ ≠ gb252 ∧ k_ ≠ gb253) (fun k_ => ((fun k_ => some k_ ≠ (.slice Ao17 t260.length co17 : Value).ownBlock ∧ some k_ ≠ (.slice Ao19 t263.length co19 : Value).ownBlock ∧ some k_ ≠ (v292 : Value).ownBlock ∧ k_ ≠ gb252 ∧ k_ ≠ gb253)) k_ ∧ some k_ ≠ (v286 : Value).ownBlock) rfl rfl ?aO ?aR (fun _ hk => hk) ?aF ?aB ?aS ?aL ?_
                (case aR => exact (by skip; exact Kd.N_F (Kd.N_mono (ok' := (fun k_ => ((fun k_ => some k_ ≠ (.slice Ao17 t260.length co17 : Value).ownBlock ∧ some k_ ≠ (.slice Ao19 t263.length co19 : Value).ownBlock ∧ some k_ ≠ (v292 : Value).ownBlock ∧ k_ ≠ gb252 ∧ k_ ≠ gb253)) k_ ∧ some k_ ≠ (v286 : Value).ownBlock)) (HO_0.out) (fun k_ hk => ⟨⟨hk.1.1.1, ⟨hk.1.1.2.1, ⟨hk.1.2, ⟨hk.1.1.2.2.2.2.1, hk.1.1.2.2.2.2.2⟩⟩⟩⟩, hk.2⟩))))
                (case aB => exact (bel_ HB.out))
                (case aF => exact (fun k_ hk => ⟨Kd.fresh' (Kd.R_lt (R_ HO_253003.out)) k_ hk, Kd.fresh' (Kd.R_lt (R_ HO_253004.out)) k_ hk, Kd.fresh' (Kd.N_lt (N_ HO293.out)) k_ hk, Kd.freshB (g := gb252) (o := .cells #[.string t257, .string t258, .string t259, .slice Ao17 t260.length co17, .slice Ao19 t263.length co19] 28 (0, 0)) (blk_ BK252.out) k_ hk, Kd.freshB (g := gb253) (o := .cells #[.int .i64 t266, .string t267, .string t268, .slice Ao24 t269.length co24, .slice Ao26 t272.length co26] 26 (0, 0)) (blk_ BK253.out) k_ hk⟩))
                (case aO => exact (by (with_reducible repeat (first | apply Kd.N_alloc | apply Kd.N_drewN | apply Kd.N_drew)); exact Kd.N_mono HO287.out (fun _ hk => ⟨hk.2.1, ⟨hk.2.2.1, ⟨hk.2.2.2.1, ⟨hk.2.2.2.2.1, hk.2.2.2.2.2⟩⟩⟩⟩)))
                (case aS => exact (below_size (bel_ HB.out)))
                (case aL => have := LMc58.out; omega)
                intro v289 w72 ho hb hg hat
                rw [← Ny288.out] at ho
                have n0_ := am_ (Kd.N_afterv (ok := (fun k_ => some k_ ≠ (.slice Ao17 t260.length co17 : Value).ownBlock ∧ some k_ ≠ (.slice Ao19 t263.length co19 : Value).ownBlock ∧ some k_ ≠ (v292 : Value).ownBlock ∧ k_ ≠ gb252 ∧ k_ ≠ gb253)) (by (with_reducible repeat (first | apply Kd.N_alloc | apply Kd.N_drewN | apply Kd.N_drew)); exact Kd.N_mono HO_0.out (fun _ hk => ⟨⟨hk.1.1.1, ⟨hk.1.1.2.1, ⟨hk.1.2, ⟨hk.1.1.2.2.2.2.1, hk.1.1.2.2.2.2.2⟩⟩⟩⟩, hk.2⟩)) hg hat)
                have n1_ := am_ (Kd.R_over' (R_ HO_253003.out) (Kd.N_typed (N_ HO287.out)) (by decide) hg)
                have n2_ := am_ (Kd.R_over' (R_ HO_253004.out) (Kd.N_typed (N_ HO287.out)) (by decide) hg)
                have n3_ := am_ (blk_grown (g := gb252) (o := .cells #[.string t257, .string t258, .string t259, .slice Ao17 t260.length co17, .slice Ao19 t263.length co19] 28 (0, 0)) (blk_ BK252.out) hg (Kd.N_ne HO287.out BK252.out (by decide)))
                have n4_ := am_ (blk_grown (g := gb253) (o := .cells #[.int .i64 t266, .string t267, .string t268, .slice Ao24 t269.length co24, .slice Ao26 t272.length co26] 26 (0, 0)) (blk_ BK253.out) hg (Kd.N_away HO287.out (fun _ hk => hk.2.2.2.2.2)))
                have n5_ := am_ (Kd.N_afterv (ok := (fun k_ => some k_ ≠ (.slice Ao30 t254.length co30 : Value).ownBlock ∧ some k_ ≠ (.slice Ao17 t260.length co17 : Value).ownBlock ∧ some k_ ≠ (.slice Ao19 t263.length co19 : Value).ownBlock ∧ k_ ≠ gb252 ∧ k_ ≠ gb253)) (N_ HO293.out) hg hat)
                have n6_ := am_ (hb)
                have n7_ := am_ (ho)
                have HO_254003 := am_ (Kd.R_over' (R_ HO_254003.out) (Kd.N_typed (N_ HO287.out)) (by decide) hg)
                have HO_254004 := am_ (Kd.R_over' (R_ HO_254004.out) (Kd.N_typed (N_ HO287.out)) (by decide) hg)
                clear HO_0 HO_253003 HO_253004 BK252 BK253 HO293 HB HO287
                have HO_0 := n0_
                have HO_253003 := n1_
                have HO_253004 := n2_
                have BK252 := n3_
                have BK253 := n4_
                have HO293 := n5_
                have HB := n6_
                have HO290 := n7_
                clear n0_ n1_ n2_ n3_ n4_ n5_ n6_ n7_ ho hb hg hat
                refine hK.out _ _ ⟨(blk_cell BK253.out 0).trans rfl, (blk_cell BK253.out 1).trans rfl, (blk_cell BK253.out 2).trans rfl, (blk_cell BK253.out 3).trans rfl, (blk_cell BK253.out 4).trans rfl, (blk_cell BK252.out 0).trans rfl, (blk_cell BK252.out 1).trans rfl, (blk_cell BK252.out 2).trans rfl, (blk_cell BK252.out 3).trans rfl, (blk_cell BK252.out 4).trans rfl⟩ (fun hHeld => ?_)
                clear hK K
                refine norm_ (a' := ?_) ?_ ?_
                rotate_left
                ·show Act.put _ (some 90) _ = _
                 simp only [Act.put, sx_, s0_, s1_, i64_w, i32_w]
                 rfl
                exact norm_ (by simp only [putAll, Act.put, List.setIfInBounds_toArray, List.set_cons_zero, List.set_cons_succ]) (hCont (v286, v289, v292) _ ⟨hHeld, (by (with_reducible repeat (first | apply Kd.N_alloc | apply Kd.N_drewN | apply Kd.N_drew)); exact Kd.N_mono HO290.out (fun _ hk => ⟨hk.2.2.1, ⟨hk.1, ⟨hk.2.1, ⟨hk.2.2.2.1, hk.2.2.2.2⟩⟩⟩⟩)), (by (with_reducible repeat (first | apply Kd.N_alloc | apply Kd.N_drewN | apply Kd.N_drew)); exact Kd.N_mono HO293.out (fun _ hk => ⟨hk.2, ⟨hk.1.1, ⟨hk.1.2.1, ⟨hk.1.2.2.1, ⟨hk.1.2.2.2.1, hk.1.2.2.2.2⟩⟩⟩⟩⟩)), (by (with_reducible repeat (first | apply Kd.N_alloc | apply Kd.N_drewN | apply Kd.N_drew)); exact Kd.N_mono HO_0.out (fun _ hk => ⟨hk.2, ⟨hk.1.2.2.1, ⟨hk.1.1, ⟨hk.1.2.1, ⟨hk.1.2.2.2.1, hk.1.2.2.2.2⟩⟩⟩⟩⟩)), (by (with_reducible repeat (first | apply Kd.R_alloc | apply Kd.R_drewN | apply Kd.R_drew)); exact Kd.R_mono HO_253003.out (fun _ hk => hk.1)), (by (with_reducible repeat (first | apply Kd.R_alloc | apply Kd.R_drewN | apply Kd.R_drew)); exact Kd.R_mono HO_253004.out (fun _ hk => hk.1)), (blk_ BK252.out), (blk_ BK253.out), (bel_ HB.out), (by (with_reducible repeat (first | apply Kd.R_alloc | apply Kd.R_drewN | apply Kd.R_drew)); exact Kd.R_mono HO_254003.out (fun _ _ => trivial)), (by (with_reducible repeat (first | apply Kd.R_alloc | apply Kd.R_drewN | apply Kd.R_drew)); exact Kd.R_mono HO_254004.out (fun _ _ => trivial))⟩)
              rintro ⟨v286, v289, v292⟩ w73 ⟨hS_, h0_, h1_, h2_, h3_, h4_, h5_, h6_, h7_, h8_, h9_⟩
              have n0_ : Aside0 (Kd.N k26 26 w73 w.heap.size (fun k_ => some k_ ≠ (v292 : Value).ownBlock ∧ some k_ ≠ (.slice Ao17 t260.length co17 : Value).ownBlock ∧ some k_ ≠ (.slice Ao19 t263.length co19 : Value).ownBlock ∧ k_ ≠ gb252 ∧ k_ ≠ gb253) v289 y288) := ⟨h0_⟩
              have n1_ : Aside0 (Kd.N k26 26 w73 w.heap.size (fun k_ => some k_ ≠ (v289 : Value).ownBlock ∧ some k_ ≠ (.slice Ao30 t254.length co30 : Value).ownBlock ∧ some k_ ≠ (.slice Ao17 t260.length co17 : Value).ownBlock ∧ some k_ ≠ (.slice Ao19 t263.length co19 : Value).ownBlock ∧ k_ ≠ gb252 ∧ k_ ≠ gb253) v292 y291) := ⟨h1_⟩
              have n2_ : Aside0 (Kd.N k26 26 w73 w.heap.size (fun k_ => some k_ ≠ (v289 : Value).ownBlock ∧ some k_ ≠ (v292 : Value).ownBlock ∧ some k_ ≠ (.slice Ao17 t260.length co17 : Value).ownBlock ∧ some k_ ≠ (.slice Ao19 t263.length co19 : Value).ownBlock ∧ k_ ≠ gb252 ∧ k_ ≠ gb253) (.slice Ao30 t254.length co30) t254) := ⟨h2_⟩
              have n3_ : Aside0 (Kd.R k49 49 w73 w.heap.size (fun k_ => some k_ ≠ (.slice Ao19 t263.length co19 : Value).ownBlock) (.slice Ao17 t260.length co17) t260) := ⟨h3_⟩
              have n4_ : Aside0 (Kd.R k49 49 w73 w.heap.size (fun k_ => some k_ ≠ (.slice Ao17 t260.length co17 : Value).ownBlock) (.slice Ao19 t263.length co19) t263) := ⟨h4_⟩
              have n5_ : Aside0 (w73.heap[gb252]? = some (.cells #[.string t257, .string t258, .string t259, .slice Ao17 t260.length co17, .slice Ao19 t263.length co19] 28 (0, 0))) := ⟨h5_⟩
              have n6_ : Aside0 (w73.heap[gb253]? = some (.cells #[.int .i64 t266, .string t267, .string t268, .slice Ao24 t269.length co24, .slice Ao26 t272.length co26] 26 (0, 0))) := ⟨h6_⟩
              have n7_ : Aside0 (Below w.heap.size w w73) := ⟨h7_⟩
              clear HO_0 HO_253003 HO_253004 BK252 BK253 HB h0_ h1_ h2_ h3_ h4_ h5_ h6_ h7_
              have HO_254003 : Aside0 (Kd.R k49 49 w73 w.heap.size (fun _ => True) (.slice Ao24 t269.length co24) t269) := ⟨h8_⟩
              have HO_254004 : Aside0 (Kd.R k49 49 w73 w.heap.size (fun _ => True) (.slice Ao26 t272.length co26) t272) := ⟨h9_⟩
              have HO290 := n0_
              have HO293 := n1_
              have HO_0 := n2_
              have HO_253003 := n3_
              have HO_253004 := n4_
              have BK252 := n5_
              have BK253 := n6_
              have HB := n7_
              clear n0_ n1_ n2_ n3_ n4_ n5_ n6_ n7_
              have hHeld : w73.cell? ⟨gb253, 0, none⟩ = some (.int .i64 t266) ∧ w73.cell? ⟨gb253, 1, none⟩ = some (.string t267) ∧ w73.cell? ⟨gb253, 2, none⟩ = some (.string t268) ∧ w73.cell? ⟨gb253, 3, none⟩ = some (.slice Ao24 t269.length co24) ∧ w73.cell? ⟨gb253, 4, none⟩ = some (.slice Ao26 t272.length co26) ∧ w73.cell? ⟨gb252, 0, none⟩ = some (.string t257) ∧ w73.cell? ⟨gb252, 1, none⟩ = some (.string t258) ∧ w73.cell? ⟨gb252, 2, none⟩ = some (.string t259) ∧ w73.cell? ⟨gb252, 3, none⟩ = some (.slice Ao17 t260.length co17) ∧ w73.cell? ⟨gb252, 4, none⟩ = some (.slice Ao19 t263.length co19) := hS_
              obtain ⟨Ao75, co75, eo75⟩ := Kd.N_slice HO293.out
              (first | subst eo75 | (injection eo75 with f1_ f2_ f3_; have f4_ := f1_.symm; have f5_ := f3_.symm; clear f1_ f2_ f3_; subst f4_; subst f5_))
              refine norm_ (a' := ?_) ?_ ?_
              rotate_left
              ·simp only [putAll, Act.put, List.setIfInBounds_toArray, List.set_cons_zero, List.set_cons_succ]
               rfl
              refine one_ (i := 5) (N := some 93) #[true, true, true, true, true, true, true, false, false, false, false, false, false] rfl rfl (one_of HT_.out kr_) (by decide) (fun K hK => ?_)
              refine Kd.N_append_rows_step k26 (w0 := w) w.heap.size (by rfl) (.tmp 90) (.tmp 92) 39 26 (.agg #[(.int .i64 0), (.string ⟨#[]⟩), (.string ⟨#[]⟩), (.slice none 0 0), (.slice none 0 0)]) 88 rfl Tryd.underlying39 info26 rfl (by decide) (by omega) v289 y288 y291 _ _ _ (fun k_ => some k_ ≠ (.slice Ao17 t260.length co17 : Value).ownBlock ∧ some k_ ≠ (.slice Ao19 t263.length co19 : Value).ownBlock ∧ k_ ≠ gb252 ∧ k_ ≠ gb253) (fun k_ => ((fun k_ => some k_ ≠ (.slice Ao17 t260.length co17 : Value).ownBlock ∧ some k_ ≠ (.slice Ao19 t263.length co19 : Value).ownBlock ∧ k_ ≠ gb252 ∧ k_ ≠ gb253)) k_ ∧ some k_ ≠ (v289 : Value).ownBlock) rfl rfl ?aO ?aR (fun _ hk => hk) ?aF ?aB ?aS ?aL ?_
              (case aR => exact (by skip; exact Kd.N_F (Kd.N_mono (ok' := (fun k_ => ((fun k_ => some k_ ≠ (.slice Ao17 t260.length co17 : Value).ownBlock ∧ some k_ ≠ (.slice Ao19 t263.length co19 : Value).ownBlock ∧ k_ ≠ gb252 ∧ k_ ≠ gb253)) k_ ∧ some k_ ≠ (v289 : Value).ownBlock)) (HO293.out) (fun k_ hk => ⟨⟨hk.2.2.1, ⟨hk.2.2.2.1, ⟨hk.2.2.2.2.1, hk.2.2.2.2.2⟩⟩⟩, hk.1⟩))))
              (case aB => exact (bel_ HB.out))
              (case aF => exact (fun k_ hk => ⟨Kd.fresh' (Kd.R_lt (R_ HO_253003.out)) k_ hk, Kd.fresh' (Kd.R_lt (R_ HO_253004.out)) k_ hk, Kd.freshB (g := gb252) (o := .cells #[.string t257, .string t258, .string t259, .slice Ao17 t260.length co17, .slice Ao19 t263.length co19] 28 (0, 0)) (blk_ BK252.out) k_ hk, Kd.freshB (g := gb253) (o := .cells #[.int .i64 t266, .string t267, .string t268, .slice Ao24 t269.length co24, .slice Ao26 t272.length co26] 26 (0, 0)) (blk_ BK253.out) k_ hk⟩))
              (case aO => exact (by (with_reducible repeat (first | apply Kd.N_alloc | apply Kd.N_drewN | apply Kd.N_drew)); exact Kd.N_mono HO290.out (fun _ hk => ⟨hk.2.1, ⟨hk.2.2.1, ⟨hk.2.2.2.1, hk.2.2.2.2⟩⟩⟩)))
              (case aS => exact (below_size (bel_ HB.out)))
              (case aL => have := LMc59.out; omega)
              intro v295 w74 ho hb hg hat
              rw [← Ny294.out] at ho
              have n0_ := am_ (Kd.N_afterv (ok := (fun k_ => some k_ ≠ (.slice Ao17 t260.length co17 : Value).ownBlock ∧ some k_ ≠ (.slice Ao19 t263.length co19 : Value).ownBlock ∧ some k_ ≠ (.slice Ao75 y291.length co75 : Value).ownBlock ∧ k_ ≠ gb252 ∧ k_ ≠ gb253)) (by (with_reducible repeat (first | apply Kd.N_alloc | apply Kd.N_drewN | apply Kd.N_drew)); exact Kd.N_mono HO_0.out (fun _ hk => ⟨⟨hk.2.2.1, ⟨hk.2.2.2.1, ⟨hk.2.1, ⟨hk.2.2.2.2.1, hk.2.2.2.2.2⟩⟩⟩⟩, hk.1⟩)) hg hat)
              have n1_ := am_ (Kd.R_over' (R_ HO_253003.out) (Kd.N_typed (N_ HO290.out)) (by decide) hg)
              have n2_ := am_ (Kd.R_over' (R_ HO_253004.out) (Kd.N_typed (N_ HO290.out)) (by decide) hg)
              have n3_ := am_ (blk_grown (g := gb252) (o := .cells #[.string t257, .string t258, .string t259, .slice Ao17 t260.length co17, .slice Ao19 t263.length co19] 28 (0, 0)) (blk_ BK252.out) hg (Kd.N_ne HO290.out BK252.out (by decide)))
              have n4_ := am_ (blk_grown (g := gb253) (o := .cells #[.int .i64 t266, .string t267, .string t268, .slice Ao24 t269.length co24, .slice Ao26 t272.length co26] 26 (0, 0)) (blk_ BK253.out) hg (Kd.N_away HO290.out (fun _ hk => hk.2.2.2.2)))
              have n5_ := am_ (Kd.N_afterv (ok := (fun k_ => some k_ ≠ (.slice Ao30 t254.length co30 : Value).ownBlock ∧ some k_ ≠ (.slice Ao17 t260.length co17 : Value).ownBlock ∧ some k_ ≠ (.slice Ao19 t263.length co19 : Value).ownBlock ∧ k_ ≠ gb252 ∧ k_ ≠ gb253)) (by (with_reducible repeat (first | apply Kd.N_alloc | apply Kd.N_drewN | apply Kd.N_drew)); exact Kd.N_mono HO293.out (fun _ hk => ⟨⟨hk.2.1, ⟨hk.2.2.1, ⟨hk.2.2.2.1, ⟨hk.2.2.2.2.1, hk.2.2.2.2.2⟩⟩⟩⟩, hk.1⟩)) hg hat)
              have n6_ := am_ (hb)
              have n7_ := am_ (ho)
              have HO_254003 := am_ (Kd.R_over' (R_ HO_254003.out) (Kd.N_typed (N_ HO290.out)) (by decide) hg)
              have HO_254004 := am_ (Kd.R_over' (R_ HO_254004.out) (Kd.N_typed (N_ HO290.out)) (by decide) hg)
              clear HO_0 HO_253003 HO_253004 BK252 BK253 HO293 HB HO290
              have HO_0 := n0_
              have HO_253003 := n1_
              have HO_253004 := n2_
              have BK252 := n3_
              have BK253 := n4_
              have HO293 := n5_
              have HB := n6_
              have HO296 := n7_
              clear n0_ n1_ n2_ n3_ n4_ n5_ n6_ n7_ ho hb hg hat
              obtain ⟨Ao76, co76, eo76⟩ := Kd.N_slice HO296.out
              (first | subst eo76 | (injection eo76 with f1_ f2_ f3_; have f4_ := f1_.symm; have f5_ := f3_.symm; clear f1_ f2_ f3_; subst f4_; subst f5_))
              refine hK.out _ _ ⟨(blk_cell BK253.out 0).trans rfl, (blk_cell BK253.out 1).trans rfl, (blk_cell BK253.out 2).trans rfl, (blk_cell BK253.out 3).trans rfl, (blk_cell BK253.out 4).trans rfl, (blk_cell BK252.out 0).trans rfl, (blk_cell BK252.out 1).trans rfl, (blk_cell BK252.out 2).trans rfl, (blk_cell BK252.out 3).trans rfl, (blk_cell BK252.out 4).trans rfl⟩ (fun hHeld => ?_)
              clear hK K
              refine norm_ (a' := ?_) ?_ ?_
              rotate_left
              ·show Act.put _ (some 93) _ = _
               simp only [Act.put, sx_, s0_, s1_, i64_w, i32_w]
               rfl
              refine one_ (i := 7) (N := some 95) #[true, true, true, true, true, true, true, true, false, false, false, false, false] rfl rfl (one_of HT_.out kr_) (by decide) (fun K hK => ?_)
              refine goes_ Tryd.func21 kr_ rfl #[.slice Ao76 y294.length co76, .agg #[.string t257, .string t258, .string t259, .slice Ao17 t260.length co17, .slice Ao19 t263.length co19]] (by rfl) rfl rfl rl_ ?_
              with_reducible refine (rule_First.calls kj48 _ _ y294 t257 t258 t259 _ _ t260 _ _ t263 t297 true _ ?side1 ?side2 ?side3 ?side4 ?side5 ?side6 A60.out).mono ?_
              (case side1 => exact C_ (Kd.N_reads' HO296.out).2.2)
              (case side2 => exact (Kd.N_reads' HO296.out).2.1)
              (case side3 => exact C_ (Kd.R_reads' HO_253003.out).2.2)
              (case side4 => exact (Kd.R_reads' HO_253003.out).2.1)
              (case side5 => exact C_ (Kd.R_reads' HO_253004.out).2.2)
              (case side6 => exact (Kd.R_reads' HO_253004.out).2.1)
              rintro e w77 ⟨rfl, hb⟩
              refine ⟨_, rfl, ?_⟩
              have n0_ := am_ (Kd.N_below (N_ HO_0.out) hb)
              have n1_ := am_ (Kd.R_below (R_ HO_253003.out) hb)
              have n2_ := am_ (Kd.R_below (R_ HO_253004.out) hb)
              have n3_ := am_ (Kd.N_below (N_ HO293.out) hb)
              have n4_ := am_ (Kd.N_below (N_ HO296.out) hb)
              have n5_ := am_ (blk_below (g := gb252) (o := .cells #[.string t257, .string t258, .string t259, .slice Ao17 t260.length co17, .slice Ao19 t263.length co19] 28 (0, 0)) (blk_ BK252.out) hb)
              have n6_ := am_ (blk_below (g := gb253) (o := .cells #[.int .i64 t266, .string t267, .string t268, .slice Ao24 t269.length co24, .slice Ao26 t272.length co26] 26 (0, 0)) (blk_ BK253.out) hb)
              have n7_ := am_ (below_step (bel_ HB.out) hb)
              have HO_254003 := am_ (Kd.R_below (R_ HO_254003.out) hb)
              have HO_254004 := am_ (Kd.R_below (R_ HO_254004.out) hb)
              clear HO_0 HO_253003 HO_253004 HO293 HO296 BK252 BK253 HB
              have HO_0 := n0_
              have HO_253003 := n1_
              have HO_253004 := n2_
              have HO293 := n3_
              have HO296 := n4_
              have BK252 := n5_
              have BK253 := n6_
              have HB := n7_
              clear n0_ n1_ n2_ n3_ n4_ n5_ n6_ n7_
              (try clear hb)
              (try clear hb2)
              (try clear hk)
              (try clear hi)
              refine hK.out _ _ ⟨(blk_cell BK253.out 0).trans rfl, (blk_cell BK253.out 1).trans rfl, (blk_cell BK253.out 2).trans rfl, (blk_cell BK253.out 3).trans rfl, (blk_cell BK253.out 4).trans rfl, (blk_cell BK252.out 0).trans rfl, (blk_cell BK252.out 1).trans rfl, (blk_cell BK252.out 2).trans rfl, (blk_cell BK252.out 3).trans rfl, (blk_cell BK252.out 4).trans rfl⟩ (fun hHeld => ?_)
              clear hK K
              refine norm_ (a' := ?_) ?_ ?_
              rotate_left
              ·show Act.put _ (some 95) _ = _
               simp only [Act.put, sx_, s0_, s1_, i64_w, i32_w]
               rfl
              refine pure_ (i := 8) (N := some 87) (v := ?_) (a' := ?_) #[true, true, true, true, true, true, true, true, true, false, false, false, false] rfl rfl (any_of HT_.out kr_) (fun _ _ _ h => h) (Or.inl ⟨by rfl, ?_⟩) ?_ ?_
              rotate_left
              ·intro w'
               go_simp
               with_reducible rfl
              rotate_left
              ·simp only [Act.put, sx_, s0_, s1_, i64_w, i32_w]
               rfl
              refine pure_ (i := 9) (N := some 96) (v := ?_) (a' := ?_) #[true, true, true, true, true, true, true, true, true, true, false, false, false] rfl rfl (any_of HT_.out kr_) (fun _ _ _ h => h) (Or.inl ⟨by rfl, ?_⟩) ?_ ?_
              rotate_left
              ·intro w'
               go_simp
               with_reducible rfl
              rotate_left
              ·simp only [Act.put, sx_, s0_, s1_, i64_w, i32_w]
               rfl
              refine pure_ (i := 10) (N := some 97) (v := ?_) (a' := ?_) #[true, true, true, true, true, true, true, true, true, true, true, false, false] rfl rfl (any_of HT_.out kr_) (fun _ _ _ h => h) (Or.inl ⟨by rfl, ?_⟩) ?_ ?_
              rotate_left
              ·intro w'
               go_simp
               with_reducible rfl
              rotate_left
              ·simp only [Act.put, sx_, s0_, s1_, i64_w, i32_w]
               rfl
              refine pure_ (i := 11) (N := some 10) (v := ?_) (a' := ?_) #[true, true, true, true, true, true, true, true, true, true, true, true, false] rfl rfl (any_of HT_.out kr_) (fun _ _ _ h => h) (Or.inl ⟨by rfl, ?_⟩) ?_ ?_
              rotate_left
              ·intro w'
               go_simp
               with_reducible rfl
              rotate_left
              ·simp only [Act.put, sx_, s0_, s1_, i64_w, i32_w]
               rfl
              refine pure_ (i := 12) (N := some 11) (v := ?_) (a' := ?_) #[true, true, true, true, true, true, true, true, true, true, true, true, true] rfl rfl (any_of HT_.out kr_) (fun _ _ _ h => h) (Or.inl ⟨by rfl, ?_⟩) ?_ ?_
              rotate_left
              ·intro w'
               go_simp
               with_reducible rfl
              rotate_left
              ·simp only [Act.put, sx_, s0_, s1_, i64_w, i32_w]
               rfl
              refine done_ (done_of HT_.out kr_) ?_
              try go_wp2
              have n0_ := am_ (Kd.N_drew HO_0.out)
              have n1_ := am_ (Kd.R_drew HO_253003.out)
              have n2_ := am_ (Kd.R_drew HO_253004.out)
              have n3_ := am_ (Kd.N_drew HO293.out)
              have n4_ := am_ (Kd.N_drew HO296.out)
              have n5_ := am_ (blk_drew BK252.out)
              have n6_ := am_ (blk_drew BK253.out)
              have n7_ := am_ (below_drew1 HB.out)
              have HO_254003 := am_ (Kd.R_drew HO_254003.out)
              have HO_254004 := am_ (Kd.R_drew HO_254004.out)
              clear HO_0 HO_253003 HO_253004 HO293 HO296 BK252 BK253 HB
              have HO_0 := n0_
              have HO_253003 := n1_
              have HO_253004 := n2_
              have HO293 := n3_
              have HO296 := n4_
              have BK252 := n5_
              have BK253 := n6_
              have HB := n7_
              clear n0_ n1_ n2_ n3_ n4_ n5_ n6_ n7_
              refine start_ (n := 13) (S := fun w' => w'.cell? ⟨gb253, 0, none⟩ = some (.int .i64 t266) ∧ w'.cell? ⟨gb253, 1, none⟩ = some (.string t267) ∧ w'.cell? ⟨gb253, 2, none⟩ = some (.string t268) ∧ w'.cell? ⟨gb253, 3, none⟩ = some (.slice Ao24 t269.length co24) ∧ w'.cell? ⟨gb253, 4, none⟩ = some (.slice Ao26 t272.length co26) ∧ w'.cell? ⟨gb252, 0, none⟩ = some (.string t257) ∧ w'.cell? ⟨gb252, 1, none⟩ = some (.string t258) ∧ w'.cell? ⟨gb252, 2, none⟩ = some (.string t259) ∧ w'.cell? ⟨gb252, 3, none⟩ = some (.slice Ao17 t260.length co17) ∧ w'.cell? ⟨gb252, 4, none⟩ = some (.slice Ao19 t263.length co19)) (ds := []) #[false, false, false, false, false, false, false, false, false, false, false, false, false] kr_ rfl rfl ⟨(blk_cell BK253.out 0).trans rfl, (blk_cell BK253.out 1).trans rfl, (blk_cell BK253.out 2).trans rfl, (blk_cell BK253.out 3).trans rfl, (blk_cell BK253.out 4).trans rfl, (blk_cell BK252.out 0).trans rfl, (blk_cell BK252.out 1).trans rfl, (blk_cell BK252.out 2).trans rfl, (blk_cell BK252.out 3).trans rfl, (blk_cell BK252.out 4).trans rfl⟩ (fun hHeld => ?_); refine with_tabW tolllaw06_RuleFirst_g1.tab13 tolllaw06_RuleFirst_g1.bits13 (fun HT_ HW_ => ?_)
              generalize w77.drew = w78 at HO_254003 HO_254004 HO_0 HO_253003 HO_253004 HO293 HO296 BK252 BK253 HB hHeld ⊢
              refine take_ (i := 0) (N := some 98) (v := ?_) (a' := ?_) #[true, false, false, false, false, false, false, false, false, false, false, false, false] rfl rfl (take_ofW HT_.out HW_.out kr_) (fun _ _ _ h => h) (Or.inl ⟨by rfl, ?_⟩) hHeld ?_ ?_
              rotate_left
              ·rintro w' ⟨s0, s1, s2, s3, s4, s5, s6, s7, s8, s9⟩
               go_simp
               with_reducible rfl
              rotate_left
              ·simp only [Act.put, sx_, s0_, s1_, i64_w, i32_w]
               rfl
              refine take_ (i := 1) (N := some 99) (v := ?_) (a' := ?_) #[true, true, false, false, false, false, false, false, false, false, false, false, false] rfl rfl (take_ofW HT_.out HW_.out kr_) (fun _ _ _ h => h) (Or.inl ⟨by rfl, ?_⟩) hHeld ?_ ?_
              rotate_left
              ·rintro w' ⟨s0, s1, s2, s3, s4, s5, s6, s7, s8, s9⟩
               go_simp
               with_reducible rfl
              rotate_left
              ·simp only [Act.put, sx_, s0_, s1_, i64_w, i32_w]
               rfl
              refine one_ (i := 2) (N := some 100) #[true, true, true, false, false, false, false, false, false, false, false, false, false] rfl rfl (one_of HT_.out kr_) (by decide) (fun K hK => ?_)
              refine goes_ Tryd.func14 kr_ rfl #[.agg #[.int .i64 t266, .string t267, .string t268, .slice Ao24 t269.length co24, .slice Ao26 t272.length co26], .agg #[.string t257, .string t258, .string t259, .slice Ao17 t260.length co17, .slice Ao19 t263.length co19]] (by rfl) rfl rfl rl_ ?_
              with_reducible refine (rule_Holds.calls kj48 t266 t267 t268 _ _ t269 _ _ t272 t257 t258 t259 _ _ t260 _ _ t263 false _ ?side1 ?side2 ?side3 ?side4 ?side5 ?side6 ?side7 ?side8 A61.out).mono ?_
              (case side1 => exact C_ (Kd.R_reads' HO_254003.out).2.2)
              (case side2 => exact (Kd.R_reads' HO_254003.out).2.1)
              (case side3 => exact C_ (Kd.R_reads' HO_254004.out).2.2)
              (case side4 => exact (Kd.R_reads' HO_254004.out).2.1)
              (case side5 => exact C_ (Kd.R_reads' HO_253003.out).2.2)
              (case side6 => exact (Kd.R_reads' HO_253003.out).2.1)
              (case side7 => exact C_ (Kd.R_reads' HO_253004.out).2.2)
              (case side8 => exact (Kd.R_reads' HO_253004.out).2.1)
              rintro e w79 ⟨rfl, hb⟩
              refine ⟨_, rfl, ?_⟩
              have n0_ := am_ (Kd.N_below (N_ HO_0.out) hb)
              have n1_ := am_ (Kd.R_below (R_ HO_253003.out) hb)
              have n2_ := am_ (Kd.R_below (R_ HO_253004.out) hb)
              have n3_ := am_ (Kd.N_below (N_ HO293.out) hb)
              have n4_ := am_ (Kd.N_below (N_ HO296.out) hb)
              have n5_ := am_ (blk_below (g := gb252) (o := .cells #[.string t257, .string t258, .string t259, .slice Ao17 t260.length co17, .slice Ao19 t263.length co19] 28 (0, 0)) (blk_ BK252.out) hb)
              have n6_ := am_ (blk_below (g := gb253) (o := .cells #[.int .i64 t266, .string t267, .string t268, .slice Ao24 t269.length co24, .slice Ao26 t272.length co26] 26 (0, 0)) (blk_ BK253.out) hb)
              have n7_ := am_ (below_step (bel_ HB.out) hb)
              have HO_254003 := am_ (Kd.R_below (R_ HO_254003.out) hb)
              have HO_254004 := am_ (Kd.R_below (R_ HO_254004.out) hb)
              clear HO_0 HO_253003 HO_253004 HO293 HO296 BK252 BK253 HB
              have HO_0 := n0_
              have HO_253003 := n1_
              have HO_253004 := n2_
              have HO293 := n3_
              have HO296 := n4_
              have BK252 := n5_
              have BK253 := n6_
              have HB := n7_
              clear n0_ n1_ n2_ n3_ n4_ n5_ n6_ n7_
              (try clear hb)
              (try clear hb2)
              (try clear hk)
              (try clear hi)
              refine hK.out _ _ ⟨(blk_cell BK253.out 0).trans rfl, (blk_cell BK253.out 1).trans rfl, (blk_cell BK253.out 2).trans rfl, (blk_cell BK253.out 3).trans rfl, (blk_cell BK253.out 4).trans rfl, (blk_cell BK252.out 0).trans rfl, (blk_cell BK252.out 1).trans rfl, (blk_cell BK252.out 2).trans rfl, (blk_cell BK252.out 3).trans rfl, (blk_cell BK252.out 4).trans rfl⟩ (fun hHeld => ?_)
              clear hK K
              refine norm_ (a' := ?_) ?_ ?_
              rotate_left
              ·show Act.put _ (some 100) _ = _
               simp only [Act.put, sx_, s0_, s1_, i64_w, i32_w]
               rfl
              refine pure_ (i := 3) (N := some 101) (v := ?_) (a' := ?_) #[true, true, true, true, false, false, false, false, false, false, false, false, false] rfl rfl (any_of HT_.out kr_) (fun _ _ _ h => h) (Or.inl ⟨by rfl, ?_⟩) ?_ ?_
              rotate_left
              ·intro w'
               go_simp
               with_reducible rfl
              rotate_left
              ·simp only [Act.put, sx_, s0_, s1_, i64_w, i32_w]
               rfl
              refine pure_ (i := 4) (N := some 102) (v := undef) (a' := ?_) #[true, true, true, true, true, false, false, false, false, false, false, false, false] rfl rfl (any_of HT_.out kr_) (fun _ _ _ h => h) (Or.inr ⟨by rfl, rfl⟩) ?_ ?_
              rotate_left
              ·simp only [Act.put, sx_, s0_, s1_, i64_w, i32_w]
               rfl
              refine pure_ (i := 5) (N := some 103) (v := undef) (a' := ?_) #[true, true, true, true, true, true, false, false, false, false, false, false, false] rfl rfl (any_of HT_.out kr_) (fun _ _ _ h => h) (Or.inr ⟨by rfl, rfl⟩) ?_ ?_
              rotate_left
              ·simp only [Act.put, sx_, s0_, s1_, i64_w, i32_w]
               rfl
              refine pure_ (i := 6) (N := some 104) (v := undef) (a' := ?_) #[true, true, true, true, true, true, true, false, false, false, false, false, false] rfl rfl (any_of HT_.out kr_) (fun _ _ _ h => h) (Or.inr ⟨by rfl, rfl⟩) ?_ ?_
              rotate_left
              ·simp only [Act.put, sx_, s0_, s1_, i64_w, i32_w]
               rfl
              refine pure_ (i := 7) (N := some 105) (v := undef) (a' := ?_) #[true, true, true, true, true, true, true, true, false, false, false, false, false] rfl rfl (any_of HT_.out kr_) (fun _ _ _ h => h) (Or.inr ⟨by rfl, rfl⟩) ?_ ?_
              rotate_left
              ·simp only [Act.put, sx_, s0_, s1_, i64_w, i32_w]
               rfl
              refine pure_ (i := 8) (N := some 106) (v := undef) (a' := ?_) #[true, true, true, true, true, true, true, true, true, false, false, false, false] rfl rfl (any_of HT_.out kr_) (fun _ _ _ h => h) (Or.inr ⟨by rfl, rfl⟩) ?_ ?_
              rotate_left
              ·simp only [Act.put, sx_, s0_, s1_, i64_w, i32_w]
               rfl
              refine pure_ (i := 9) (N := some 107) (v := undef) (a' := ?_) #[true, true, true, true, true, true, true, true, true, true, false, false, false] rfl rfl (any_of HT_.out kr_) (fun _ _ _ h => h) (Or.inr ⟨by rfl, rfl⟩) ?_ ?_
              rotate_left
              ·simp only [Act.put, sx_, s0_, s1_, i64_w, i32_w]
               rfl
              refine pure_ (i := 10) (N := some 108) (v := undef) (a' := ?_) #[true, true, true, true, true, true, true, true, true, true, true, false, false] rfl rfl (any_of HT_.out kr_) (fun _ _ _ h => h) (Or.inr ⟨by rfl, rfl⟩) ?_ ?_
              rotate_left
              ·simp only [Act.put, sx_, s0_, s1_, i64_w, i32_w]
               rfl
              refine pure_ (i := 11) (N := some 109) (v := ?_) (a' := ?_) #[true, true, true, true, true, true, true, true, true, true, true, true, false] rfl rfl (any_of HT_.out kr_) (fun _ _ _ h => h) (Or.inl ⟨by rfl, ?_⟩) ?_ ?_
              rotate_left
              ·intro w'
               go_simp
               with_reducible rfl
              rotate_left
              ·simp only [Act.put, sx_, s0_, s1_, i64_w, i32_w]
               rfl
              refine pure_ (i := 12) (N := some 12) (v := ?_) (a' := ?_) #[true, true, true, true, true, true, true, true, true, true, true, true, true] rfl rfl (any_of HT_.out kr_) (fun _ _ _ h => h) (Or.inl ⟨by rfl, ?_⟩) ?_ ?_
              rotate_left
              ·intro w'
               go_simp
               with_reducible rfl
              rotate_left
              ·simp only [Act.put, sx_, s0_, s1_, i64_w, i32_w]
               rfl
              refine done_ (done_of HT_.out kr_) ?_
              try go_wp2_with (first | (go_at_call 18; (with_reducible refine (tolllaw06_awake.calls  t304 _ A66.out).mono ?_); rintro e w80 ⟨rfl, hb⟩; have n0_ := am_ (Kd.N_below (N_ HO_0.out) hb); have n1_ := am_ (Kd.R_below (R_ HO_253003.out) hb); have n2_ := am_ (Kd.R_below (R_ HO_253004.out) hb); have n3_ := am_ (Kd.N_below (N_ HO293.out) hb); have n4_ := am_ (Kd.N_below (N_ HO296.out) hb); have n5_ := am_ (blk_below (g := gb252) (o := .cells #[.string t257, .string t258, .string t259, .slice Ao17 t260.length co17, .slice Ao19 t263.length co19] 28 (0, 0)) (blk_ BK252.out) hb); have n6_ := am_ (blk_below (g := gb253) (o := .cells #[.int .i64 t266, .string t267, .string t268, .slice Ao24 t269.length co24, .slice Ao26 t272.length co26] 26 (0, 0)) (blk_ BK253.out) hb); have n7_ := am_ (below_step (bel_ HB.out) hb); clear HO_0 HO_253003 HO_253004 HO293 HO296 BK252 BK253 HB; have HO_0 := n0_; have HO_253003 := n1_; have HO_253004 := n2_; have HO293 := n3_; have HO296 := n4_; have BK252 := n5_; have BK253 := n6_; have HB := n7_; clear n0_ n1_ n2_ n3_ n4_ n5_ n6_ n7_; (try clear hb); (try clear hb2); (try clear hk); (try clear hi)))
              go_ret
              exact ⟨fi_, bel_ HB.out⟩
             ·rw [if_neg c65] at H
              exact absurd H (by simp)
            ·rw [if_neg c64] at H
             exact absurd H (by simp)
           ·replace c63 := Bool.eq_false_iff.mpr c63
            subst c63
            have H1 : (none) = some r := by rw [if_neg (show ¬ (false = true) by decide)] at H; exact H
            clear H
            have H := H1
            clear H1
            exact absurd H (by simp)
         ·rw [if_neg c59] at H
          exact absurd H (by simp)
        ·rw [if_neg c58] at H
         exact absurd H (by simp)
    ·replace c48 := Bool.eq_false_iff.mpr c48
     subst c48
     have H1 : (if t275 = 0 then ((tolllaw06_awake.f).bind fun t282 => (some t282)) else (none)) = some r := by rw [if_neg (show ¬ (false = true) by decide)] at H; exact H
     clear H
     have H := H1
     clear H1
     by_cases c81 : t275 = 0
     ·rw [if_pos c81] at H
      have c81b0 : (t275 == 0) = true := beq_iff_eq.mpr c81
      have c81b1 : (t275 != 0) = false := bne_eq_false_iff_eq.mpr c81
      clear c81
      replace H := Option.bind_eq_some_iff.mp H
      obtain ⟨t282, A820, H⟩ := H
      replace H : (some t282) = some r := H
      have A82 := Aside0.mk A820
      clear A820
      obtain rfl := Option.some.inj H
      go_wp2_with (first | (go_at_call 18; (with_reducible refine (tolllaw06_awake.calls  t282 _ A82.out).mono ?_); rintro e w83 ⟨rfl, hb⟩; have n0_ := am_ (Kd.N_below (N_ HO_0.out) hb); have n1_ := am_ (Kd.R_below (R_ HO_253003.out) hb); have n2_ := am_ (Kd.R_below (R_ HO_253004.out) hb); have n3_ := am_ (Kd.R_below (R_ HO_254003.out) hb); have n4_ := am_ (Kd.R_below (R_ HO_254004.out) hb); have n5_ := am_ (blk_below (g := gb252) (o := .cells #[.string t257, .string t258, .string t259, .slice Ao17 t260.length co17, .slice Ao19 t263.length co19] 28 (0, 0)) (blk_ BK252.out) hb); have n6_ := am_ (blk_below (g := gb253) (o := .cells #[.int .i64 t266, .string t267, .string t268, .slice Ao24 t269.length co24, .slice Ao26 t272.length co26] 26 (0, 0)) (blk_ BK253.out) hb); have n7_ := am_ (below_step (bel_ HB.out) hb); clear HO_0 HO_253003 HO_253004 HO_254003 HO_254004 BK252 BK253 HB; have HO_0 := n0_; have HO_253003 := n1_; have HO_253004 := n2_; have HO_254003 := n3_; have HO_254004 := n4_; have BK252 := n5_; have BK253 := n6_; have HB := n7_; clear n0_ n1_ n2_ n3_ n4_ n5_ n6_ n7_; (try clear hb); (try clear hb2); (try clear hk); (try clear hi)))
      go_ret
      exact ⟨fi_, bel_ HB.out⟩
     ·rw [if_neg c81] at H
      exact absurd H (by simp)

end Go.Proofs.YtompldnifiieaaaDoor.P
