-- written by wip/tool/hprint.py of this repo: the kit's print, with contracts by hand joined; Lean checks it.
import Derived.Test.YtompldnifiieaaaDoorPx0
import Derived.Test.YtompldnifiieaaaDoorPx10
namespace Go.Proofs.YtompldnifiieaaaDoor.P
open Go.RowKit Go.Proofs.YtompldnifiieaaaDoorW.PrintWords Go.Proofs.YtompldnifiieaaaDoorW.PrintLast Go.Proofs.YtompldnifiieaaaDoorW.PrintMore
attribute [local go_sem] max2_int min2_int max_two min_two max_three min_three max_four min_four   -- for this text's walks alone
set_option linter.unusedVariables false
set_option linter.unusedSimpArgs false

/-! ### tollref06_May: function 13 -/
mutual
noncomputable def tollref06_May.j0 : Nat → Bool → Int → ByteArray → ByteArray → List (S49) → List (S49) → Option (Bool)
 | 0, _, _, _, _, _, _ => none
 | k + 1, x39, x181000, x181001, x181002, x181003, x181004 => if x39 = true then (some false) else (tollref06_May.l0 k 0 x181000 x181001 x181002 x181003 x181004)
noncomputable def tollref06_May.l0 : Nat → Int → Int → ByteArray → ByteArray → List (S49) → List (S49) → Option (Bool)
 | 0, _, _, _, _, _, _ => none
 | k + 1, x3, x181000, x181001, x181002, x181003, x181004 => if x3 < (x181003.length : Int) then (if 0 ≤ x3 then ((tollref05_Token.f k ((rd_T49 x181003 x3).f0)).bind fun t186 => (if t186 = true then ((tollref05_Value.f k ((rd_T49 x181003 x3).f1)).bind fun t188 => (tollref06_May.j2 k x3 (!t188) x181000 x181001 x181002 x181003 x181004)) else (tollref06_May.j2 k x3 true x181000 x181001 x181002 x181003 x181004))) else (none)) else (tollref06_May.l2 k 0 x181000 x181001 x181002 x181003 x181004)
noncomputable def tollref06_May.j2 : Nat → Int → Bool → Int → ByteArray → ByteArray → List (S49) → List (S49) → Option (Bool)
 | 0, _, _, _, _, _, _, _ => none
 | k + 1, x3, x64, x181000, x181001, x181002, x181003, x181004 => if x64 = true then (some false) else (tollref06_May.l1 k x3 0 x181000 x181001 x181002 x181003 x181004)
noncomputable def tollref06_May.l1 : Nat → Int → Int → Int → ByteArray → ByteArray → List (S49) → List (S49) → Option (Bool)
 | 0, _, _, _, _, _, _, _ => none
 | k + 1, x3, x4, x181000, x181001, x181002, x181003, x181004 => if x4 < x3 then (if 0 ≤ x3 then (if x3 < (x181003.length : Int) then (if 0 ≤ x4 then (if x4 < (x181003.length : Int) then ((tollref05_Same.f k ((rd_T49 x181003 x3).f0) ((rd_T49 x181003 x4).f0)).bind fun t191 => (if t191 = true then (some false) else (tollref06_May.l1 k x3 (wrap64 (x4 + 1)) x181000 x181001 x181002 x181003 x181004))) else (none)) else (none)) else (none)) else (none)) else (tollref06_May.l0 k (wrap64 (x3 + 1)) x181000 x181001 x181002 x181003 x181004)
noncomputable def tollref06_May.l2 : Nat → Int → Int → ByteArray → ByteArray → List (S49) → List (S49) → Option (Bool)
 | 0, _, _, _, _, _, _ => none
 | k + 1, x5, x181000, x181001, x181002, x181003, x181004 => if x5 < (x181004.length : Int) then (tollref06_May.l3 k x5 0 x181000 x181001 x181002 x181003 x181004) else (some true)
noncomputable def tollref06_May.l3 : Nat → Int → Int → Int → ByteArray → ByteArray → List (S49) → List (S49) → Option (Bool)
 | 0, _, _, _, _, _, _, _ => none
 | k + 1, x5, x6, x181000, x181001, x181002, x181003, x181004 => if x6 < x5 then (if 0 ≤ x5 then (if x5 < (x181004.length : Int) then (if 0 ≤ x6 then (if x6 < (x181004.length : Int) then (if ((rd_T49 x181004 x5).f0).toList = ((rd_T49 x181004 x6).f0).toList then (some false) else (tollref06_May.l3 k x5 (wrap64 (x6 + 1)) x181000 x181001 x181002 x181003 x181004)) else (none)) else (none)) else (none)) else (none)) else (tollref06_May.l2 k (wrap64 (x5 + 1)) x181000 x181001 x181002 x181003 x181004)
end
noncomputable def tollref06_May.f (k : Nat) (a0_0 : Int) (a0_1 : ByteArray) (a0_2 : ByteArray) (l0_3 : List (S49)) (l0_4 : List (S49)) : Option (Bool) := (tollref03_May.f k a0_0 a0_1).bind fun t181 => (if t181 = true then (if a0_2.toList = ([] : List UInt8) then (if (l0_3.length : Int) > 8 then (tollref06_May.j0 k true a0_0 a0_1 a0_2 l0_3 l0_4) else (if (l0_4.length : Int) > 8 then (tollref06_May.j0 k true a0_0 a0_1 a0_2 l0_3 l0_4) else ((tollref04_May.f k l0_4).bind fun t182 => (tollref06_May.j0 k (!t182) a0_0 a0_1 a0_2 l0_3 l0_4)))) else ((tollref06_Method.f k a0_2).bind fun t183 => (if t183 = true then (if (l0_3.length : Int) > 8 then (tollref06_May.j0 k true a0_0 a0_1 a0_2 l0_3 l0_4) else (if (l0_4.length : Int) > 8 then (tollref06_May.j0 k true a0_0 a0_1 a0_2 l0_3 l0_4) else ((tollref04_May.f k l0_4).bind fun t184 => (tollref06_May.j0 k (!t184) a0_0 a0_1 a0_2 l0_3 l0_4)))) else (tollref06_May.j0 k true a0_0 a0_1 a0_2 l0_3 l0_4)))) else (tollref06_May.j0 k true a0_0 a0_1 a0_2 l0_3 l0_4))
theorem tollref06_May.mono_l : ∀ k, (∀ y0 y1 y2 y3 y4 y5, LeO (tollref06_May.j0 k y0 y1 y2 y3 y4 y5) (tollref06_May.j0 (k + 1) y0 y1 y2 y3 y4 y5)) ∧ (∀ y0 y1 y2 y3 y4 y5, LeO (tollref06_May.l0 k y0 y1 y2 y3 y4 y5) (tollref06_May.l0 (k + 1) y0 y1 y2 y3 y4 y5)) ∧ (∀ y0 y1 y2 y3 y4 y5 y6, LeO (tollref06_May.j2 k y0 y1 y2 y3 y4 y5 y6) (tollref06_May.j2 (k + 1) y0 y1 y2 y3 y4 y5 y6)) ∧ (∀ y0 y1 y2 y3 y4 y5 y6, LeO (tollref06_May.l1 k y0 y1 y2 y3 y4 y5 y6) (tollref06_May.l1 (k + 1) y0 y1 y2 y3 y4 y5 y6)) ∧ (∀ y0 y1 y2 y3 y4 y5, LeO (tollref06_May.l2 k y0 y1 y2 y3 y4 y5) (tollref06_May.l2 (k + 1) y0 y1 y2 y3 y4 y5)) ∧ (∀ y0 y1 y2 y3 y4 y5 y6, LeO (tollref06_May.l3 k y0 y1 y2 y3 y4 y5 y6) (tollref06_May.l3 (k + 1) y0 y1 y2 y3 y4 y5 y6))
 | 0 => ⟨fun _ _ _ _ _ _ r h => by simp [tollref06_May.j0] at h, fun _ _ _ _ _ _ r h => by simp [tollref06_May.l0] at h, fun _ _ _ _ _ _ _ r h => by simp [tollref06_May.j2] at h, fun _ _ _ _ _ _ _ r h => by simp [tollref06_May.l1] at h, fun _ _ _ _ _ _ r h => by simp [tollref06_May.l2] at h, fun _ _ _ _ _ _ _ r h => by simp [tollref06_May.l3] at h⟩
 | k + 1 => by
  obtain ⟨ih0, ih1, ih2, ih3, ih4, ih5⟩ := tollref06_May.mono_l k
  refine ⟨?_, ?_, ?_, ?_, ?_, ?_⟩
  ·intro y0 y1 y2 y3 y4 y5
   unfold tollref06_May.j0
   repeat' first
   | (with_reducible exact ih0 _ _ _ _ _ _)
   | (with_reducible exact ih1 _ _ _ _ _ _)
   | (with_reducible exact ih2 _ _ _ _ _ _ _)
   | (with_reducible exact ih3 _ _ _ _ _ _ _)
   | (with_reducible exact ih4 _ _ _ _ _ _)
   | (with_reducible exact ih5 _ _ _ _ _ _ _)
   | (with_reducible exact tollref03_May.mono _ _ _)
   | (with_reducible exact tollref04_May.mono _ _)
   | (with_reducible exact tollref05_Same.mono _ _ _)
   | (with_reducible exact tollref05_Token.mono _ _)
   | (with_reducible exact tollref05_Value.mono _ _)
   | (with_reducible exact tollref06_Method.mono _ _)
   | (with_reducible exact LeO.refl _)
   | (with_reducible exact LeO.none _)
   | (with_reducible refine LeO.ite ?_ ?_)
   | (with_reducible refine LeO.bind ?_ (fun _ => ?_))
   | exact ih0 _ _ _ _ _ _
   | exact ih1 _ _ _ _ _ _
   | exact ih2 _ _ _ _ _ _ _
   | exact ih3 _ _ _ _ _ _ _
   | exact ih4 _ _ _ _ _ _
   | exact ih5 _ _ _ _ _ _ _
   | exact tollref03_May.mono _ _ _
   | exact tollref04_May.mono _ _
   | exact tollref05_Same.mono _ _ _
   | exact tollref05_Token.mono _ _
   | exact tollref05_Value.mono _ _
   | exact tollref06_Method.mono _ _
   | exact LeO.none _
   | refine LeO.ite ?_ ?_
   | refine LeO.bind ?_ (fun _ => ?_)
  ·intro y0 y1 y2 y3 y4 y5
   unfold tollref06_May.l0
   repeat' first
   | (with_reducible exact ih0 _ _ _ _ _ _)
   | (with_reducible exact ih1 _ _ _ _ _ _)
   | (with_reducible exact ih2 _ _ _ _ _ _ _)
   | (with_reducible exact ih3 _ _ _ _ _ _ _)
   | (with_reducible exact ih4 _ _ _ _ _ _)
   | (with_reducible exact ih5 _ _ _ _ _ _ _)
   | (with_reducible exact tollref03_May.mono _ _ _)
   | (with_reducible exact tollref04_May.mono _ _)
   | (with_reducible exact tollref05_Same.mono _ _ _)
   | (with_reducible exact tollref05_Token.mono _ _)
   | (with_reducible exact tollref05_Value.mono _ _)
   | (with_reducible exact tollref06_Method.mono _ _)
   | (with_reducible exact LeO.refl _)
   | (with_reducible exact LeO.none _)
   | (with_reducible refine LeO.ite ?_ ?_)
   | (with_reducible refine LeO.bind ?_ (fun _ => ?_))
   | exact ih0 _ _ _ _ _ _
   | exact ih1 _ _ _ _ _ _
   | exact ih2 _ _ _ _ _ _ _
   | exact ih3 _ _ _ _ _ _ _
   | exact ih4 _ _ _ _ _ _
   | exact ih5 _ _ _ _ _ _ _
   | exact tollref03_May.mono _ _ _
   | exact tollref04_May.mono _ _
   | exact tollref05_Same.mono _ _ _
   | exact tollref05_Token.mono _ _
   | exact tollref05_Value.mono _ _
   | exact tollref06_Method.mono _ _
   | exact LeO.none _
   | refine LeO.ite ?_ ?_
   | refine LeO.bind ?_ (fun _ => ?_)
  ·intro y0 y1 y2 y3 y4 y5 y6
   unfold tollref06_May.j2
   repeat' first
   | (with_reducible exact ih0 _ _ _ _ _ _)
   | (with_reducible exact ih1 _ _ _ _ _ _)
   | (with_reducible exact ih2 _ _ _ _ _ _ _)
   | (with_reducible exact ih3 _ _ _ _ _ _ _)
   | (with_reducible exact ih4 _ _ _ _ _ _)
   | (with_reducible exact ih5 _ _ _ _ _ _ _)
   | (with_reducible exact tollref03_May.mono _ _ _)
   | (with_reducible exact tollref04_May.mono _ _)
   | (with_reducible exact tollref05_Same.mono _ _ _)
   | (with_reducible exact tollref05_Token.mono _ _)
   | (with_reducible exact tollref05_Value.mono _ _)
   | (with_reducible exact tollref06_Method.mono _ _)
   | (with_reducible exact LeO.refl _)
   | (with_reducible exact LeO.none _)
   | (with_reducible refine LeO.ite ?_ ?_)
   | (with_reducible refine LeO.bind ?_ (fun _ => ?_))
   | exact ih0 _ _ _ _ _ _
   | exact ih1 _ _ _ _ _ _
   | exact ih2 _ _ _ _ _ _ _
   | exact ih3 _ _ _ _ _ _ _
   | exact ih4 _ _ _ _ _ _
   | exact ih5 _ _ _ _ _ _ _
   | exact tollref03_May.mono _ _ _
   | exact tollref04_May.mono _ _
   | exact tollref05_Same.mono _ _ _
   | exact tollref05_Token.mono _ _
   | exact tollref05_Value.mono _ _
   | exact tollref06_Method.mono _ _
   | exact LeO.none _
   | refine LeO.ite ?_ ?_
   | refine LeO.bind ?_ (fun _ => ?_)
  ·intro y0 y1 y2 y3 y4 y5 y6
   unfold tollref06_May.l1
   repeat' first
   | (with_reducible exact ih0 _ _ _ _ _ _)
   | (with_reducible exact ih1 _ _ _ _ _ _)
   | (with_reducible exact ih2 _ _ _ _ _ _ _)
   | (with_reducible exact ih3 _ _ _ _ _ _ _)
   | (with_reducible exact ih4 _ _ _ _ _ _)
   | (with_reducible exact ih5 _ _ _ _ _ _ _)
   | (with_reducible exact tollref03_May.mono _ _ _)
   | (with_reducible exact tollref04_May.mono _ _)
   | (with_reducible exact tollref05_Same.mono _ _ _)
   | (with_reducible exact tollref05_Token.mono _ _)
   | (with_reducible exact tollref05_Value.mono _ _)
   | (with_reducible exact tollref06_Method.mono _ _)
   | (with_reducible exact LeO.refl _)
   | (with_reducible exact LeO.none _)
   | (with_reducible refine LeO.ite ?_ ?_)
   | (with_reducible refine LeO.bind ?_ (fun _ => ?_))
   | exact ih0 _ _ _ _ _ _
   | exact ih1 _ _ _ _ _ _
   | exact ih2 _ _ _ _ _ _ _
   | exact ih3 _ _ _ _ _ _ _
   | exact ih4 _ _ _ _ _ _
   | exact ih5 _ _ _ _ _ _ _
   | exact tollref03_May.mono _ _ _
   | exact tollref04_May.mono _ _
   | exact tollref05_Same.mono _ _ _
   | exact tollref05_Token.mono _ _
   | exact tollref05_Value.mono _ _
   | exact tollref06_Method.mono _ _
   | exact LeO.none _
   | refine LeO.ite ?_ ?_
   | refine LeO.bind ?_ (fun _ => ?_)
  ·intro y0 y1 y2 y3 y4 y5
   unfold tollref06_May.l2
   repeat' first
   | (with_reducible exact ih0 _ _ _ _ _ _)
   | (with_reducible exact ih1 _ _ _ _ _ _)
   | (with_reducible exact ih2 _ _ _ _ _ _ _)
   | (with_reducible exact ih3 _ _ _ _ _ _ _)
   | (with_reducible exact ih4 _ _ _ _ _ _)
   | (with_reducible exact ih5 _ _ _ _ _ _ _)
   | (with_reducible exact tollref03_May.mono _ _ _)
   | (with_reducible exact tollref04_May.mono _ _)
   | (with_reducible exact tollref05_Same.mono _ _ _)
   | (with_reducible exact tollref05_Token.mono _ _)
   | (with_reducible exact tollref05_Value.mono _ _)
   | (with_reducible exact tollref06_Method.mono _ _)
   | (with_reducible exact LeO.refl _)
   | (with_reducible exact LeO.none _)
   | (with_reducible refine LeO.ite ?_ ?_)
   | (with_reducible refine LeO.bind ?_ (fun _ => ?_))
   | exact ih0 _ _ _ _ _ _
   | exact ih1 _ _ _ _ _ _
   | exact ih2 _ _ _ _ _ _ _
   | exact ih3 _ _ _ _ _ _ _
   | exact ih4 _ _ _ _ _ _
   | exact ih5 _ _ _ _ _ _ _
   | exact tollref03_May.mono _ _ _
   | exact tollref04_May.mono _ _
   | exact tollref05_Same.mono _ _ _
   | exact tollref05_Token.mono _ _
   | exact tollref05_Value.mono _ _
   | exact tollref06_Method.mono _ _
   | exact LeO.none _
   | refine LeO.ite ?_ ?_
   | refine LeO.bind ?_ (fun _ => ?_)
  ·intro y0 y1 y2 y3 y4 y5 y6
   unfold tollref06_May.l3
   repeat' first
   | (with_reducible exact ih0 _ _ _ _ _ _)
   | (with_reducible exact ih1 _ _ _ _ _ _)
   | (with_reducible exact ih2 _ _ _ _ _ _ _)
   | (with_reducible exact ih3 _ _ _ _ _ _ _)
   | (with_reducible exact ih4 _ _ _ _ _ _)
   | (with_reducible exact ih5 _ _ _ _ _ _ _)
   | (with_reducible exact tollref03_May.mono _ _ _)
   | (with_reducible exact tollref04_May.mono _ _)
   | (with_reducible exact tollref05_Same.mono _ _ _)
   | (with_reducible exact tollref05_Token.mono _ _)
   | (with_reducible exact tollref05_Value.mono _ _)
   | (with_reducible exact tollref06_Method.mono _ _)
   | (with_reducible exact LeO.refl _)
   | (with_reducible exact LeO.none _)
   | (with_reducible refine LeO.ite ?_ ?_)
   | (with_reducible refine LeO.bind ?_ (fun _ => ?_))
   | exact ih0 _ _ _ _ _ _
   | exact ih1 _ _ _ _ _ _
   | exact ih2 _ _ _ _ _ _ _
   | exact ih3 _ _ _ _ _ _ _
   | exact ih4 _ _ _ _ _ _
   | exact ih5 _ _ _ _ _ _ _
   | exact tollref03_May.mono _ _ _
   | exact tollref04_May.mono _ _
   | exact tollref05_Same.mono _ _ _
   | exact tollref05_Token.mono _ _
   | exact tollref05_Value.mono _ _
   | exact tollref06_Method.mono _ _
   | exact LeO.none _
   | refine LeO.ite ?_ ?_
   | refine LeO.bind ?_ (fun _ => ?_)
theorem tollref06_May.mono : ∀ a0 a1 a2 a3 a4 k, LeO (tollref06_May.f k a0 a1 a2 a3 a4) (tollref06_May.f (k + 1) a0 a1 a2 a3 a4) := by
 intro a0 a1 a2 a3 a4 k
 obtain ⟨ih0, ih1, ih2, ih3, ih4, ih5⟩ := tollref06_May.mono_l k
 unfold tollref06_May.f
 repeat' first
   | (with_reducible exact ih0 _ _ _ _ _ _)
   | (with_reducible exact ih1 _ _ _ _ _ _)
   | (with_reducible exact ih2 _ _ _ _ _ _ _)
   | (with_reducible exact ih3 _ _ _ _ _ _ _)
   | (with_reducible exact ih4 _ _ _ _ _ _)
   | (with_reducible exact ih5 _ _ _ _ _ _ _)
   | (with_reducible exact tollref03_May.mono _ _ _)
   | (with_reducible exact tollref04_May.mono _ _)
   | (with_reducible exact tollref05_Same.mono _ _ _)
   | (with_reducible exact tollref05_Token.mono _ _)
   | (with_reducible exact tollref05_Value.mono _ _)
   | (with_reducible exact tollref06_Method.mono _ _)
   | (with_reducible exact LeO.refl _)
   | (with_reducible exact LeO.none _)
   | (with_reducible refine LeO.ite ?_ ?_)
   | (with_reducible refine LeO.bind ?_ (fun _ => ?_))
   | exact ih0 _ _ _ _ _ _
   | exact ih1 _ _ _ _ _ _
   | exact ih2 _ _ _ _ _ _ _
   | exact ih3 _ _ _ _ _ _ _
   | exact ih4 _ _ _ _ _ _
   | exact ih5 _ _ _ _ _ _ _
   | exact tollref03_May.mono _ _ _
   | exact tollref04_May.mono _ _
   | exact tollref05_Same.mono _ _ _
   | exact tollref05_Token.mono _ _
   | exact tollref05_Value.mono _ _
   | exact tollref06_Method.mono _ _
   | exact LeO.none _
   | refine LeO.ite ?_ ?_
   | refine LeO.bind ?_ (fun _ => ?_)
noncomputable def tollref06_May.T11 : Bool × List (List Nat × List Nat) := (true, [([], []), ([0], [0]), ([], []), ([1, 2], [1, 2]), ([3], [3]), ([4], [4]), ([], []), ([6], [6]), ([], []), ([7, 8], [7, 8]), ([9], [9]), ([10], [10]), ([5, 11], [5, 11])])
noncomputable def tollref06_May.B11 : List Nat := [0, 1, 0, 7, 15, 31, 0, 64, 0, 448, 960, 1984, 4095]
theorem tollref06_May.tab11 : rtab .any (opsOf Tryd.f13 11) = tollref06_May.T11 := by kernel_rfl
theorem tollref06_May.bits11 : waitsOk tollref06_May.T11.2 tollref06_May.B11 = true := by kernel_rfl
noncomputable def tollref06_May.T19 : Bool × List (List Nat × List Nat) := (true, [([], []), ([0], [0]), ([], []), ([1, 2], [1, 2]), ([3], [3]), ([4], [4]), ([], []), ([6], [6]), ([], []), ([7, 8], [7, 8]), ([9], [9]), ([10], [10]), ([5, 11], [5, 11])])
noncomputable def tollref06_May.B19 : List Nat := [0, 1, 0, 7, 15, 31, 0, 64, 0, 448, 960, 1984, 4095]
theorem tollref06_May.tab19 : rtab .any (opsOf Tryd.f13 19) = tollref06_May.T19 := by kernel_rfl
theorem tollref06_May.bits19 : waitsOk tollref06_May.T19.2 tollref06_May.B19 = true := by kernel_rfl
set_option maxHeartbeats 40000000 in
set_option maxRecDepth 100000 in
theorem tollref06_May.calls (k : Nat) (a0_0 : Int) (a0_1 : ByteArray) (a0_2 : ByteArray) (A0_3 : Option Addr) (c0_3 : Nat) (l0_3 : List (S49)) (A0_4 : Option Addr) (c0_4 : Nat) (l0_4 : List (S49)) (r : Bool) (w : World) (hr0_3 : Kd.C k49 w A0_3 l0_3.length l0_3) (hc0_3 : l0_3.length ≤ c0_3) (hr0_4 : Kd.C k49 w A0_4 l0_4.length l0_4) (hc0_4 : l0_4.length ≤ c0_4) (h : tollref06_May.f k a0_0 a0_1 a0_2 l0_3 l0_4 = some r) :
  Calls Tryd.prog 13 #[.agg #[.int .i64 a0_0, .string a0_1, .string a0_2, .slice A0_3 l0_3.length c0_3, .slice A0_4 l0_4.length c0_4]] w fun e w' => e = .returned (.bool r) ∧ Below w.heap.size w w' := by
 have hu26 := Tryd.underlying26
 have hu23 := Tryd.underlying23
 have HR0_3 := Aside0.mk hr0_3
 have HC0_3 := Aside0.mk hc0_3
 clear hr0_3 hc0_3
 have HR0_4 := Aside0.mk hr0_4
 have HC0_4 := Aside0.mk hc0_4
 clear hr0_4 hc0_4
 have HB := am_ (Below.refl w.heap.size w)
 have H : ((tollref03_May.f k a0_0 a0_1).bind fun t181 => (if t181 = true then (if a0_2.toList = ([] : List UInt8) then (if (l0_3.length : Int) > 8 then (tollref06_May.j0 k true a0_0 a0_1 a0_2 l0_3 l0_4) else (if (l0_4.length : Int) > 8 then (tollref06_May.j0 k true a0_0 a0_1 a0_2 l0_3 l0_4) else ((tollref04_May.f k l0_4).bind fun t182 => (tollref06_May.j0 k (!t182) a0_0 a0_1 a0_2 l0_3 l0_4)))) else ((tollref06_Method.f k a0_2).bind fun t183 => (if t183 = true then (if (l0_3.length : Int) > 8 then (tollref06_May.j0 k true a0_0 a0_1 a0_2 l0_3 l0_4) else (if (l0_4.length : Int) > 8 then (tollref06_May.j0 k true a0_0 a0_1 a0_2 l0_3 l0_4) else ((tollref04_May.f k l0_4).bind fun t184 => (tollref06_May.j0 k (!t184) a0_0 a0_1 a0_2 l0_3 l0_4)))) else (tollref06_May.j0 k true a0_0 a0_1 a0_2 l0_3 l0_4)))) else (tollref06_May.j0 k true a0_0 a0_1 a0_2 l0_3 l0_4))) = some r := h
 clear h
 have HC2 := Aside0.mk H
 clear H
 go_enter Tryd.func13, Tryd.ntmps13
 go_upto_region 1 with (first | ((with_reducible refine gate_dst (N := 1) rfl ?_); (try (refine gate_guard (by rfl) ?_; dsimp only)); refine box_event ?hg (N := 1) ?hd (cs := #[.int .i64 a0_0, .string a0_1, .string a0_2, .slice A0_3 l0_3.length c0_3, .slice A0_4 l0_4.length c0_4]) (t := 26) ?hr ?_; (case hd => rfl); (case hg => rfl); (case hr => first | (go_simp; done) | (go_simp; rfl)); intro gb180 hg w3 hbox hb; have n0_ := am_ (below_step (bel_ HB.out) hb); have n1_ := am_ (hbox); have n2_ := am_ ((by rw [hg]; exact (below_size (bel_ HB.out)) : w.heap.size ≤ gb180)); have n3_ := am_ ((by rw [hg]; exact (below_size (bel_ HB.out)) : w.heap.size ≤ gb180)); clear HB; have HB := n0_; have BK180 := n1_; have GW180 := n2_; have GE180 := n3_; clear n0_ n1_ n2_ n3_ hb hbox hg))
 (try simp only [Act.put, List.setIfInBounds_toArray, List.set_cons_zero, List.set_cons_succ])
 go_cut [39] (fun v39 wc => ∃ (kq : Nat) (x39_1 : Bool), v39 = .bool x39_1 ∧ Aside0 (tollref06_May.j0 kq x39_1 a0_0 a0_1 a0_2 l0_3 l0_4 = some r) ∧ Aside0 (kq ≤ k) ∧ Aside0 (wc.heap[gb180]? = some (.cells #[.int .i64 a0_0, .string a0_1, .string a0_2, (.slice A0_3 l0_3.length c0_3), (.slice A0_4 l0_4.length c0_4)] 26 (0, 0))) ∧ Aside0 (Below w.heap.size w wc))
 case first =>
  have H := HC2.out
  clear HC2
  replace H := Option.bind_eq_some_iff.mp H
  obtain ⟨t181, A40, H⟩ := H
  replace H : (if t181 = true then (if a0_2.toList = ([] : List UInt8) then (if (l0_3.length : Int) > 8 then (tollref06_May.j0 k true a0_0 a0_1 a0_2 l0_3 l0_4) else (if (l0_4.length : Int) > 8 then (tollref06_May.j0 k true a0_0 a0_1 a0_2 l0_3 l0_4) else ((tollref04_May.f k l0_4).bind fun t182 => (tollref06_May.j0 k (!t182) a0_0 a0_1 a0_2 l0_3 l0_4)))) else ((tollref06_Method.f k a0_2).bind fun t183 => (if t183 = true then (if (l0_3.length : Int) > 8 then (tollref06_May.j0 k true a0_0 a0_1 a0_2 l0_3 l0_4) else (if (l0_4.length : Int) > 8 then (tollref06_May.j0 k true a0_0 a0_1 a0_2 l0_3 l0_4) else ((tollref04_May.f k l0_4).bind fun t184 => (tollref06_May.j0 k (!t184) a0_0 a0_1 a0_2 l0_3 l0_4)))) else (tollref06_May.j0 k true a0_0 a0_1 a0_2 l0_3 l0_4)))) else (tollref06_May.j0 k true a0_0 a0_1 a0_2 l0_3 l0_4)) = some r := H
  have A4 := Aside0.mk A40
  clear A40
  by_cases c5 : t181 = true
  ·subst c5
   have H1 : (if a0_2.toList = ([] : List UInt8) then (if (l0_3.length : Int) > 8 then (tollref06_May.j0 k true a0_0 a0_1 a0_2 l0_3 l0_4) else (if (l0_4.length : Int) > 8 then (tollref06_May.j0 k true a0_0 a0_1 a0_2 l0_3 l0_4) else ((tollref04_May.f k l0_4).bind fun t182 => (tollref06_May.j0 k (!t182) a0_0 a0_1 a0_2 l0_3 l0_4)))) else ((tollref06_Method.f k a0_2).bind fun t183 => (if t183 = true then (if (l0_3.length : Int) > 8 then (tollref06_May.j0 k true a0_0 a0_1 a0_2 l0_3 l0_4) else (if (l0_4.length : Int) > 8 then (tollref06_May.j0 k true a0_0 a0_1 a0_2 l0_3 l0_4) else ((tollref04_May.f k l0_4).bind fun t184 => (tollref06_May.j0 k (!t184) a0_0 a0_1 a0_2 l0_3 l0_4)))) else (tollref06_May.j0 k true a0_0 a0_1 a0_2 l0_3 l0_4)))) = some r := by rw [if_pos rfl] at H; exact H
   clear H
   have H := H1
   clear H1
   by_cases c6 : a0_2.toList = ([] : List UInt8)
   ·rw [if_pos c6] at H
    have c6b0 : (a0_2.toList == ([] : List UInt8)) = true := beq_iff_eq.mpr c6
    have c6b1 : (a0_2.toList != ([] : List UInt8)) = false := bne_eq_false_iff_eq.mpr c6
    clear c6
    (first | rw [c6b0] | rw [c6b1] | rw [c6b2] | (simp only [i64_w, i32_w]; rw [c6b0]) | skip)
    by_cases c7 : (l0_3.length : Int) > 8
    ·rw [if_pos c7] at H
     have c7b0 : decide (8 < (l0_3.length : Int)) = true := decide_eq_true c7
     have c7b1 : decide (8 < l0_3.length) = true := decide_eq_true (by omega)
     clear c7
     have H' := Aside0.mk H
     clear H
     have hcz8_0 : w3.cell? ⟨gb180, 0, none⟩ = some (.int .i64 a0_0) := (blk_cell BK180.out 0).trans rfl
     have hcz8_1 : w3.cell? ⟨gb180, 1, none⟩ = some (.string a0_1) := (blk_cell BK180.out 1).trans rfl
     have hcz8_2 : w3.cell? ⟨gb180, 2, none⟩ = some (.string a0_2) := (blk_cell BK180.out 2).trans rfl
     have hcz8_3 : w3.cell? ⟨gb180, 3, none⟩ = some (.slice A0_3 l0_3.length c0_3) := (blk_cell BK180.out 3).trans rfl
     have hcz8_4 : w3.cell? ⟨gb180, 4, none⟩ = some (.slice A0_4 l0_4.length c0_4) := (blk_cell BK180.out 4).trans rfl
     have hfz8_0 := blk_frozen BK180.out 0
     have hfz8_1 := blk_frozen BK180.out 1
     have hfz8_2 := blk_frozen BK180.out 2
     have hfz8_3 := blk_frozen BK180.out 3
     have hfz8_4 := blk_frozen BK180.out 4
     go_wp2_with (first | ((with_reducible refine gate_callee (f := 33) rfl ?_); refine goesL_ (some 9) rfl rfl Tryd.func33 kr_ rfl #[.agg #[.int .i64 a0_0, .string a0_1]] rfl rl_ ?_; (with_reducible refine (tollref03_May.calls k a0_0 a0_1 true _ A4.out).mono ?_); rintro e w9 ⟨rfl, hb⟩; refine ⟨_, rfl, ?_⟩; have n0_ := am_ (blk_below (g := gb180) (o := .cells #[.int .i64 a0_0, .string a0_1, .string a0_2, .slice A0_3 l0_3.length c0_3, .slice A0_4 l0_4.length c0_4] 26 (0, 0)) (blk_ BK180.out) hb); have n1_ := am_ (below_step (bel_ HB.out) hb); clear BK180 HB; have BK180 := n0_; have HB := n1_; clear n0_ n1_; (try clear hb); (try clear hb2); (try clear hk); (try clear hi); have hcz10_0 : w9.cell? ⟨gb180, 0, none⟩ = some (.int .i64 a0_0) := (blk_cell BK180.out 0).trans rfl; have hcz10_1 : w9.cell? ⟨gb180, 1, none⟩ = some (.string a0_1) := (blk_cell BK180.out 1).trans rfl; have hcz10_2 : w9.cell? ⟨gb180, 2, none⟩ = some (.string a0_2) := (blk_cell BK180.out 2).trans rfl; have hcz10_3 : w9.cell? ⟨gb180, 3, none⟩ = some (.slice A0_3 l0_3.length c0_3) := (blk_cell BK180.out 3).trans rfl; have hcz10_4 : w9.cell? ⟨gb180, 4, none⟩ = some (.slice A0_4 l0_4.length c0_4) := (blk_cell BK180.out 4).trans rfl; have hfz10_0 := blk_frozen BK180.out 0; have hfz10_1 := blk_frozen BK180.out 1; have hfz10_2 := blk_frozen BK180.out 2; have hfz10_3 := blk_frozen BK180.out 3; have hfz10_4 := blk_frozen BK180.out 4))
     go_meet
     case rel => exact ⟨_, (true), sd_, H', ⟨by first | omega | exact Nat.le_refl _⟩, ⟨by (with_reducible repeat (first | refine blk_drewN ?_ _ | refine blk_drew ?_ | refine blk_alloc ?_ _)); exact BK180.out⟩, ⟨bel_ HB.out⟩⟩
    ·rw [if_neg c7] at H
     have c7b0 : decide (8 < (l0_3.length : Int)) = false := decide_eq_false c7
     have c7b1 : decide (8 < l0_3.length) = false := decide_eq_false (by omega)
     clear c7
     by_cases c11 : (l0_4.length : Int) > 8
     ·rw [if_pos c11] at H
      have c11b0 : decide (8 < (l0_4.length : Int)) = true := decide_eq_true c11
      have c11b1 : decide (8 < l0_4.length) = true := decide_eq_true (by omega)
      clear c11
      have H' := Aside0.mk H
      clear H
      have hcz12_0 : w3.cell? ⟨gb180, 0, none⟩ = some (.int .i64 a0_0) := (blk_cell BK180.out 0).trans rfl
      have hcz12_1 : w3.cell? ⟨gb180, 1, none⟩ = some (.string a0_1) := (blk_cell BK180.out 1).trans rfl
      have hcz12_2 : w3.cell? ⟨gb180, 2, none⟩ = some (.string a0_2) := (blk_cell BK180.out 2).trans rfl
      have hcz12_3 : w3.cell? ⟨gb180, 3, none⟩ = some (.slice A0_3 l0_3.length c0_3) := (blk_cell BK180.out 3).trans rfl
      have hcz12_4 : w3.cell? ⟨gb180, 4, none⟩ = some (.slice A0_4 l0_4.length c0_4) := (blk_cell BK180.out 4).trans rfl
      have hfz12_0 := blk_frozen BK180.out 0
      have hfz12_1 := blk_frozen BK180.out 1
      have hfz12_2 := blk_frozen BK180.out 2
      have hfz12_3 := blk_frozen BK180.out 3
      have hfz12_4 := blk_frozen BK180.out 4
      go_wp2_with (first | ((with_reducible refine gate_callee (f := 33) rfl ?_); refine goesL_ (some 9) rfl rfl Tryd.func33 kr_ rfl #[.agg #[.int .i64 a0_0, .string a0_1]] rfl rl_ ?_; (with_reducible refine (tollref03_May.calls k a0_0 a0_1 true _ A4.out).mono ?_); rintro e w13 ⟨rfl, hb⟩; refine ⟨_, rfl, ?_⟩; have n0_ := am_ (blk_below (g := gb180) (o := .cells #[.int .i64 a0_0, .string a0_1, .string a0_2, .slice A0_3 l0_3.length c0_3, .slice A0_4 l0_4.length c0_4] 26 (0, 0)) (blk_ BK180.out) hb); have n1_ := am_ (below_step (bel_ HB.out) hb); clear BK180 HB; have BK180 := n0_; have HB := n1_; clear n0_ n1_; (try clear hb); (try clear hb2); (try clear hk); (try clear hi); have hcz14_0 : w13.cell? ⟨gb180, 0, none⟩ = some (.int .i64 a0_0) := (blk_cell BK180.out 0).trans rfl; have hcz14_1 : w13.cell? ⟨gb180, 1, none⟩ = some (.string a0_1) := (blk_cell BK180.out 1).trans rfl; have hcz14_2 : w13.cell? ⟨gb180, 2, none⟩ = some (.string a0_2) := (blk_cell BK180.out 2).trans rfl; have hcz14_3 : w13.cell? ⟨gb180, 3, none⟩ = some (.slice A0_3 l0_3.length c0_3) := (blk_cell BK180.out 3).trans rfl; have hcz14_4 : w13.cell? ⟨gb180, 4, none⟩ = some (.slice A0_4 l0_4.length c0_4) := (blk_cell BK180.out 4).trans rfl; have hfz14_0 := blk_frozen BK180.out 0; have hfz14_1 := blk_frozen BK180.out 1; have hfz14_2 := blk_frozen BK180.out 2; have hfz14_3 := blk_frozen BK180.out 3; have hfz14_4 := blk_frozen BK180.out 4))
      go_meet
      case rel => exact ⟨_, (true), sd_, H', ⟨by first | omega | exact Nat.le_refl _⟩, ⟨by (with_reducible repeat (first | refine blk_drewN ?_ _ | refine blk_drew ?_ | refine blk_alloc ?_ _)); exact BK180.out⟩, ⟨bel_ HB.out⟩⟩
     ·rw [if_neg c11] at H
      have c11b0 : decide (8 < (l0_4.length : Int)) = false := decide_eq_false c11
      have c11b1 : decide (8 < l0_4.length) = false := decide_eq_false (by omega)
      clear c11
      replace H := Option.bind_eq_some_iff.mp H
      obtain ⟨t182, A150, H⟩ := H
      replace H : (tollref06_May.j0 k (!t182) a0_0 a0_1 a0_2 l0_3 l0_4) = some r := H
      have A15 := Aside0.mk A150
      clear A150
      have H' := Aside0.mk H
      clear H
      have hcz16_0 : w3.cell? ⟨gb180, 0, none⟩ = some (.int .i64 a0_0) := (blk_cell BK180.out 0).trans rfl
      have hcz16_1 : w3.cell? ⟨gb180, 1, none⟩ = some (.string a0_1) := (blk_cell BK180.out 1).trans rfl
      have hcz16_2 : w3.cell? ⟨gb180, 2, none⟩ = some (.string a0_2) := (blk_cell BK180.out 2).trans rfl
      have hcz16_3 : w3.cell? ⟨gb180, 3, none⟩ = some (.slice A0_3 l0_3.length c0_3) := (blk_cell BK180.out 3).trans rfl
      have hcz16_4 : w3.cell? ⟨gb180, 4, none⟩ = some (.slice A0_4 l0_4.length c0_4) := (blk_cell BK180.out 4).trans rfl
      have hfz16_0 := blk_frozen BK180.out 0
      have hfz16_1 := blk_frozen BK180.out 1
      have hfz16_2 := blk_frozen BK180.out 2
      have hfz16_3 := blk_frozen BK180.out 3
      have hfz16_4 := blk_frozen BK180.out 4
      go_wp2_with (first | ((with_reducible refine gate_callee (f := 33) rfl ?_); refine goesL_ (some 9) rfl rfl Tryd.func33 kr_ rfl #[.agg #[.int .i64 a0_0, .string a0_1]] rfl rl_ ?_; (with_reducible refine (tollref03_May.calls k a0_0 a0_1 true _ A4.out).mono ?_); rintro e w17 ⟨rfl, hb⟩; refine ⟨_, rfl, ?_⟩; have n0_ := am_ (blk_below (g := gb180) (o := .cells #[.int .i64 a0_0, .string a0_1, .string a0_2, .slice A0_3 l0_3.length c0_3, .slice A0_4 l0_4.length c0_4] 26 (0, 0)) (blk_ BK180.out) hb); have n1_ := am_ (below_step (bel_ HB.out) hb); clear BK180 HB; have BK180 := n0_; have HB := n1_; clear n0_ n1_; (try clear hb); (try clear hb2); (try clear hk); (try clear hi); have hcz18_0 : w17.cell? ⟨gb180, 0, none⟩ = some (.int .i64 a0_0) := (blk_cell BK180.out 0).trans rfl; have hcz18_1 : w17.cell? ⟨gb180, 1, none⟩ = some (.string a0_1) := (blk_cell BK180.out 1).trans rfl; have hcz18_2 : w17.cell? ⟨gb180, 2, none⟩ = some (.string a0_2) := (blk_cell BK180.out 2).trans rfl; have hcz18_3 : w17.cell? ⟨gb180, 3, none⟩ = some (.slice A0_3 l0_3.length c0_3) := (blk_cell BK180.out 3).trans rfl; have hcz18_4 : w17.cell? ⟨gb180, 4, none⟩ = some (.slice A0_4 l0_4.length c0_4) := (blk_cell BK180.out 4).trans rfl; have hfz18_0 := blk_frozen BK180.out 0; have hfz18_1 := blk_frozen BK180.out 1; have hfz18_2 := blk_frozen BK180.out 2; have hfz18_3 := blk_frozen BK180.out 3; have hfz18_4 := blk_frozen BK180.out 4) | (go_at_call 34; (with_reducible refine (tollref04_May.calls k _ _ l0_4 t182 _ ?side1 ?side2 A15.out).mono ?_); (case side1 => exact C_ (Kd.C_below HR0_4.out HB.out)); (case side2 => exact HC0_4.out); rintro e w' ⟨rfl, ⟨nd, rfl⟩⟩))
      go_meet
      case rel => exact ⟨_, (!t182), sd_, H', ⟨by first | omega | exact Nat.le_refl _⟩, ⟨by (with_reducible repeat (first | refine blk_drewN ?_ _ | refine blk_drew ?_ | refine blk_alloc ?_ _)); exact BK180.out⟩, ⟨bel_ HB.out⟩⟩
   ·rw [if_neg c6] at H
    have c6b0 : (a0_2.toList == ([] : List UInt8)) = false := beq_eq_false_iff_ne.mpr c6
    have c6b1 : (a0_2.toList != ([] : List UInt8)) = true := bne_iff_ne.mpr c6
    (first | rw [c6b0] | rw [c6b1] | rw [c6b2] | (simp only [i64_w, i32_w]; rw [c6b0]) | skip)
    replace H := Option.bind_eq_some_iff.mp H
    obtain ⟨t183, A190, H⟩ := H
    replace H : (if t183 = true then (if (l0_3.length : Int) > 8 then (tollref06_May.j0 k true a0_0 a0_1 a0_2 l0_3 l0_4) else (if (l0_4.length : Int) > 8 then (tollref06_May.j0 k true a0_0 a0_1 a0_2 l0_3 l0_4) else ((tollref04_May.f k l0_4).bind fun t184 => (tollref06_May.j0 k (!t184) a0_0 a0_1 a0_2 l0_3 l0_4)))) else (tollref06_May.j0 k true a0_0 a0_1 a0_2 l0_3 l0_4)) = some r := H
    have A19 := Aside0.mk A190
    clear A190
    by_cases c20 : t183 = true
    ·subst c20
     have H1 : (if (l0_3.length : Int) > 8 then (tollref06_May.j0 k true a0_0 a0_1 a0_2 l0_3 l0_4) else (if (l0_4.length : Int) > 8 then (tollref06_May.j0 k true a0_0 a0_1 a0_2 l0_3 l0_4) else ((tollref04_May.f k l0_4).bind fun t184 => (tollref06_May.j0 k (!t184) a0_0 a0_1 a0_2 l0_3 l0_4)))) = some r := by rw [if_pos rfl] at H; exact H
     clear H
     have H := H1
     clear H1
     by_cases c21 : (l0_3.length : Int) > 8
     ·rw [if_pos c21] at H
      have c21b0 : decide (8 < (l0_3.length : Int)) = true := decide_eq_true c21
      have c21b1 : decide (8 < l0_3.length) = true := decide_eq_true (by omega)
      clear c21
      have H' := Aside0.mk H
      clear H
      have hcz22_0 : w3.cell? ⟨gb180, 0, none⟩ = some (.int .i64 a0_0) := (blk_cell BK180.out 0).trans rfl
      have hcz22_1 : w3.cell? ⟨gb180, 1, none⟩ = some (.string a0_1) := (blk_cell BK180.out 1).trans rfl
      have hcz22_2 : w3.cell? ⟨gb180, 2, none⟩ = some (.string a0_2) := (blk_cell BK180.out 2).trans rfl
      have hcz22_3 : w3.cell? ⟨gb180, 3, none⟩ = some (.slice A0_3 l0_3.length c0_3) := (blk_cell BK180.out 3).trans rfl
      have hcz22_4 : w3.cell? ⟨gb180, 4, none⟩ = some (.slice A0_4 l0_4.length c0_4) := (blk_cell BK180.out 4).trans rfl
      have hfz22_0 := blk_frozen BK180.out 0
      have hfz22_1 := blk_frozen BK180.out 1
      have hfz22_2 := blk_frozen BK180.out 2
      have hfz22_3 := blk_frozen BK180.out 3
      have hfz22_4 := blk_frozen BK180.out 4
      go_wp2_with (first | ((with_reducible refine gate_callee (f := 33) rfl ?_); refine goesL_ (some 9) rfl rfl Tryd.func33 kr_ rfl #[.agg #[.int .i64 a0_0, .string a0_1]] rfl rl_ ?_; (with_reducible refine (tollref03_May.calls k a0_0 a0_1 true _ A4.out).mono ?_); rintro e w23 ⟨rfl, hb⟩; refine ⟨_, rfl, ?_⟩; have n0_ := am_ (blk_below (g := gb180) (o := .cells #[.int .i64 a0_0, .string a0_1, .string a0_2, .slice A0_3 l0_3.length c0_3, .slice A0_4 l0_4.length c0_4] 26 (0, 0)) (blk_ BK180.out) hb); have n1_ := am_ (below_step (bel_ HB.out) hb); clear BK180 HB; have BK180 := n0_; have HB := n1_; clear n0_ n1_; (try clear hb); (try clear hb2); (try clear hk); (try clear hi); have hcz24_0 : w23.cell? ⟨gb180, 0, none⟩ = some (.int .i64 a0_0) := (blk_cell BK180.out 0).trans rfl; have hcz24_1 : w23.cell? ⟨gb180, 1, none⟩ = some (.string a0_1) := (blk_cell BK180.out 1).trans rfl; have hcz24_2 : w23.cell? ⟨gb180, 2, none⟩ = some (.string a0_2) := (blk_cell BK180.out 2).trans rfl; have hcz24_3 : w23.cell? ⟨gb180, 3, none⟩ = some (.slice A0_3 l0_3.length c0_3) := (blk_cell BK180.out 3).trans rfl; have hcz24_4 : w23.cell? ⟨gb180, 4, none⟩ = some (.slice A0_4 l0_4.length c0_4) := (blk_cell BK180.out 4).trans rfl; have hfz24_0 := blk_frozen BK180.out 0; have hfz24_1 := blk_frozen BK180.out 1; have hfz24_2 := blk_frozen BK180.out 2; have hfz24_3 := blk_frozen BK180.out 3; have hfz24_4 := blk_frozen BK180.out 4) | (go_at_call 17; (with_reducible refine (tollref06_Method.calls k a0_2 true _ A19.out).mono ?_); rintro e w' ⟨rfl, ⟨nd, rfl⟩⟩))
      go_meet
      case rel => exact ⟨_, (true), sd_, H', ⟨by first | omega | exact Nat.le_refl _⟩, ⟨by (with_reducible repeat (first | refine blk_drewN ?_ _ | refine blk_drew ?_ | refine blk_alloc ?_ _)); exact BK180.out⟩, ⟨bel_ HB.out⟩⟩
     ·rw [if_neg c21] at H
      have c21b0 : decide (8 < (l0_3.length : Int)) = false := decide_eq_false c21
      have c21b1 : decide (8 < l0_3.length) = false := decide_eq_false (by omega)
      clear c21
      by_cases c25 : (l0_4.length : Int) > 8
      ·rw [if_pos c25] at H
       have c25b0 : decide (8 < (l0_4.length : Int)) = true := decide_eq_true c25
       have c25b1 : decide (8 < l0_4.length) = true := decide_eq_true (by omega)
       clear c25
       have H' := Aside0.mk H
       clear H
       have hcz26_0 : w3.cell? ⟨gb180, 0, none⟩ = some (.int .i64 a0_0) := (blk_cell BK180.out 0).trans rfl
       have hcz26_1 : w3.cell? ⟨gb180, 1, none⟩ = some (.string a0_1) := (blk_cell BK180.out 1).trans rfl
       have hcz26_2 : w3.cell? ⟨gb180, 2, none⟩ = some (.string a0_2) := (blk_cell BK180.out 2).trans rfl
       have hcz26_3 : w3.cell? ⟨gb180, 3, none⟩ = some (.slice A0_3 l0_3.length c0_3) := (blk_cell BK180.out 3).trans rfl
       have hcz26_4 : w3.cell? ⟨gb180, 4, none⟩ = some (.slice A0_4 l0_4.length c0_4) := (blk_cell BK180.out 4).trans rfl
       have hfz26_0 := blk_frozen BK180.out 0
       have hfz26_1 := blk_frozen BK180.out 1
       have hfz26_2 := blk_frozen BK180.out 2
       have hfz26_3 := blk_frozen BK180.out 3
       have hfz26_4 := blk_frozen BK180.out 4
       go_wp2_with (first | ((with_reducible refine gate_callee (f := 33) rfl ?_); refine goesL_ (some 9) rfl rfl Tryd.func33 kr_ rfl #[.agg #[.int .i64 a0_0, .string a0_1]] rfl rl_ ?_; (with_reducible refine (tollref03_May.calls k a0_0 a0_1 true _ A4.out).mono ?_); rintro e w27 ⟨rfl, hb⟩; refine ⟨_, rfl, ?_⟩; have n0_ := am_ (blk_below (g := gb180) (o := .cells #[.int .i64 a0_0, .string a0_1, .string a0_2, .slice A0_3 l0_3.length c0_3, .slice A0_4 l0_4.length c0_4] 26 (0, 0)) (blk_ BK180.out) hb); have n1_ := am_ (below_step (bel_ HB.out) hb); clear BK180 HB; have BK180 := n0_; have HB := n1_; clear n0_ n1_; (try clear hb); (try clear hb2); (try clear hk); (try clear hi); have hcz28_0 : w27.cell? ⟨gb180, 0, none⟩ = some (.int .i64 a0_0) := (blk_cell BK180.out 0).trans rfl; have hcz28_1 : w27.cell? ⟨gb180, 1, none⟩ = some (.string a0_1) := (blk_cell BK180.out 1).trans rfl; have hcz28_2 : w27.cell? ⟨gb180, 2, none⟩ = some (.string a0_2) := (blk_cell BK180.out 2).trans rfl; have hcz28_3 : w27.cell? ⟨gb180, 3, none⟩ = some (.slice A0_3 l0_3.length c0_3) := (blk_cell BK180.out 3).trans rfl; have hcz28_4 : w27.cell? ⟨gb180, 4, none⟩ = some (.slice A0_4 l0_4.length c0_4) := (blk_cell BK180.out 4).trans rfl; have hfz28_0 := blk_frozen BK180.out 0; have hfz28_1 := blk_frozen BK180.out 1; have hfz28_2 := blk_frozen BK180.out 2; have hfz28_3 := blk_frozen BK180.out 3; have hfz28_4 := blk_frozen BK180.out 4) | (go_at_call 17; (with_reducible refine (tollref06_Method.calls k a0_2 true _ A19.out).mono ?_); rintro e w' ⟨rfl, ⟨nd, rfl⟩⟩))
       go_meet
       case rel => exact ⟨_, (true), sd_, H', ⟨by first | omega | exact Nat.le_refl _⟩, ⟨by (with_reducible repeat (first | refine blk_drewN ?_ _ | refine blk_drew ?_ | refine blk_alloc ?_ _)); exact BK180.out⟩, ⟨bel_ HB.out⟩⟩
      ·rw [if_neg c25] at H
       have c25b0 : decide (8 < (l0_4.length : Int)) = false := decide_eq_false c25
       have c25b1 : decide (8 < l0_4.length) = false := decide_eq_false (by omega)
       clear c25
       replace H := Option.bind_eq_some_iff.mp H
       obtain ⟨t184, A290, H⟩ := H
       replace H : (tollref06_May.j0 k (!t184) a0_0 a0_1 a0_2 l0_3 l0_4) = some r := H
       have A29 := Aside0.mk A290
       clear A290
       have H' := Aside0.mk H
       clear H
       have hcz30_0 : w3.cell? ⟨gb180, 0, none⟩ = some (.int .i64 a0_0) := (blk_cell BK180.out 0).trans rfl
       have hcz30_1 : w3.cell? ⟨gb180, 1, none⟩ = some (.string a0_1) := (blk_cell BK180.out 1).trans rfl
       have hcz30_2 : w3.cell? ⟨gb180, 2, none⟩ = some (.string a0_2) := (blk_cell BK180.out 2).trans rfl
       have hcz30_3 : w3.cell? ⟨gb180, 3, none⟩ = some (.slice A0_3 l0_3.length c0_3) := (blk_cell BK180.out 3).trans rfl
       have hcz30_4 : w3.cell? ⟨gb180, 4, none⟩ = some (.slice A0_4 l0_4.length c0_4) := (blk_cell BK180.out 4).trans rfl
       have hfz30_0 := blk_frozen BK180.out 0
       have hfz30_1 := blk_frozen BK180.out 1
       have hfz30_2 := blk_frozen BK180.out 2
       have hfz30_3 := blk_frozen BK180.out 3
       have hfz30_4 := blk_frozen BK180.out 4
       go_wp2_with (first | ((with_reducible refine gate_callee (f := 33) rfl ?_); refine goesL_ (some 9) rfl rfl Tryd.func33 kr_ rfl #[.agg #[.int .i64 a0_0, .string a0_1]] rfl rl_ ?_; (with_reducible refine (tollref03_May.calls k a0_0 a0_1 true _ A4.out).mono ?_); rintro e w31 ⟨rfl, hb⟩; refine ⟨_, rfl, ?_⟩; have n0_ := am_ (blk_below (g := gb180) (o := .cells #[.int .i64 a0_0, .string a0_1, .string a0_2, .slice A0_3 l0_3.length c0_3, .slice A0_4 l0_4.length c0_4] 26 (0, 0)) (blk_ BK180.out) hb); have n1_ := am_ (below_step (bel_ HB.out) hb); clear BK180 HB; have BK180 := n0_; have HB := n1_; clear n0_ n1_; (try clear hb); (try clear hb2); (try clear hk); (try clear hi); have hcz32_0 : w31.cell? ⟨gb180, 0, none⟩ = some (.int .i64 a0_0) := (blk_cell BK180.out 0).trans rfl; have hcz32_1 : w31.cell? ⟨gb180, 1, none⟩ = some (.string a0_1) := (blk_cell BK180.out 1).trans rfl; have hcz32_2 : w31.cell? ⟨gb180, 2, none⟩ = some (.string a0_2) := (blk_cell BK180.out 2).trans rfl; have hcz32_3 : w31.cell? ⟨gb180, 3, none⟩ = some (.slice A0_3 l0_3.length c0_3) := (blk_cell BK180.out 3).trans rfl; have hcz32_4 : w31.cell? ⟨gb180, 4, none⟩ = some (.slice A0_4 l0_4.length c0_4) := (blk_cell BK180.out 4).trans rfl; have hfz32_0 := blk_frozen BK180.out 0; have hfz32_1 := blk_frozen BK180.out 1; have hfz32_2 := blk_frozen BK180.out 2; have hfz32_3 := blk_frozen BK180.out 3; have hfz32_4 := blk_frozen BK180.out 4) | (go_at_call 17; (with_reducible refine (tollref06_Method.calls k a0_2 true _ A19.out).mono ?_); rintro e w' ⟨rfl, ⟨nd, rfl⟩⟩) | (go_at_call 34; (with_reducible refine (tollref04_May.calls k _ _ l0_4 t184 _ ?side1 ?side2 A29.out).mono ?_); (case side1 => exact C_ (Kd.C_below HR0_4.out (bel_ HB.out))); (case side2 => exact HC0_4.out); rintro e w' ⟨rfl, ⟨nd, rfl⟩⟩))
       go_meet
       case rel => exact ⟨_, (!t184), sd_, H', ⟨by first | omega | exact Nat.le_refl _⟩, ⟨by (with_reducible repeat (first | refine blk_drewN ?_ _ | refine blk_drew ?_ | refine blk_alloc ?_ _)); exact BK180.out⟩, ⟨bel_ HB.out⟩⟩
    ·replace c20 := Bool.eq_false_iff.mpr c20
     subst c20
     have H1 : (tollref06_May.j0 k true a0_0 a0_1 a0_2 l0_3 l0_4) = some r := by rw [if_neg (show ¬ (false = true) by decide)] at H; exact H
     clear H
     have H := H1
     clear H1
     have H' := Aside0.mk H
     clear H
     have hcz33_0 : w3.cell? ⟨gb180, 0, none⟩ = some (.int .i64 a0_0) := (blk_cell BK180.out 0).trans rfl
     have hcz33_1 : w3.cell? ⟨gb180, 1, none⟩ = some (.string a0_1) := (blk_cell BK180.out 1).trans rfl
     have hcz33_2 : w3.cell? ⟨gb180, 2, none⟩ = some (.string a0_2) := (blk_cell BK180.out 2).trans rfl
     have hcz33_3 : w3.cell? ⟨gb180, 3, none⟩ = some (.slice A0_3 l0_3.length c0_3) := (blk_cell BK180.out 3).trans rfl
     have hcz33_4 : w3.cell? ⟨gb180, 4, none⟩ = some (.slice A0_4 l0_4.length c0_4) := (blk_cell BK180.out 4).trans rfl
     have hfz33_0 := blk_frozen BK180.out 0
     have hfz33_1 := blk_frozen BK180.out 1
     have hfz33_2 := blk_frozen BK180.out 2
     have hfz33_3 := blk_frozen BK180.out 3
     have hfz33_4 := blk_frozen BK180.out 4
     go_wp2_with (first | ((with_reducible refine gate_callee (f := 33) rfl ?_); refine goesL_ (some 9) rfl rfl Tryd.func33 kr_ rfl #[.agg #[.int .i64 a0_0, .string a0_1]] rfl rl_ ?_; (with_reducible refine (tollref03_May.calls k a0_0 a0_1 true _ A4.out).mono ?_); rintro e w34 ⟨rfl, hb⟩; refine ⟨_, rfl, ?_⟩; have n0_ := am_ (blk_below (g := gb180) (o := .cells #[.int .i64 a0_0, .string a0_1, .string a0_2, .slice A0_3 l0_3.length c0_3, .slice A0_4 l0_4.length c0_4] 26 (0, 0)) (blk_ BK180.out) hb); have n1_ := am_ (below_step (bel_ HB.out) hb); clear BK180 HB; have BK180 := n0_; have HB := n1_; clear n0_ n1_; (try clear hb); (try clear hb2); (try clear hk); (try clear hi); have hcz35_0 : w34.cell? ⟨gb180, 0, none⟩ = some (.int .i64 a0_0) := (blk_cell BK180.out 0).trans rfl; have hcz35_1 : w34.cell? ⟨gb180, 1, none⟩ = some (.string a0_1) := (blk_cell BK180.out 1).trans rfl; have hcz35_2 : w34.cell? ⟨gb180, 2, none⟩ = some (.string a0_2) := (blk_cell BK180.out 2).trans rfl; have hcz35_3 : w34.cell? ⟨gb180, 3, none⟩ = some (.slice A0_3 l0_3.length c0_3) := (blk_cell BK180.out 3).trans rfl; have hcz35_4 : w34.cell? ⟨gb180, 4, none⟩ = some (.slice A0_4 l0_4.length c0_4) := (blk_cell BK180.out 4).trans rfl; have hfz35_0 := blk_frozen BK180.out 0; have hfz35_1 := blk_frozen BK180.out 1; have hfz35_2 := blk_frozen BK180.out 2; have hfz35_3 := blk_frozen BK180.out 3; have hfz35_4 := blk_frozen BK180.out 4) | (go_at_call 17; (with_reducible refine (tollref06_Method.calls k a0_2 false _ A19.out).mono ?_); rintro e w' ⟨rfl, ⟨nd, rfl⟩⟩))
     go_meet
     case rel => exact ⟨_, (true), sd_, H', ⟨by first | omega | exact Nat.le_refl _⟩, ⟨by (with_reducible repeat (first | refine blk_drewN ?_ _ | refine blk_drew ?_ | refine blk_alloc ?_ _)); exact BK180.out⟩, ⟨bel_ HB.out⟩⟩
  ·replace c5 := Bool.eq_false_iff.mpr c5
   subst c5
   have H1 : (tollref06_May.j0 k true a0_0 a0_1 a0_2 l0_3 l0_4) = some r := by rw [if_neg (show ¬ (false = true) by decide)] at H; exact H
   clear H
   have H := H1
   clear H1
   have H' := Aside0.mk H
   clear H
   have hcz36_0 : w3.cell? ⟨gb180, 0, none⟩ = some (.int .i64 a0_0) := (blk_cell BK180.out 0).trans rfl
   have hcz36_1 : w3.cell? ⟨gb180, 1, none⟩ = some (.string a0_1) := (blk_cell BK180.out 1).trans rfl
   have hcz36_2 : w3.cell? ⟨gb180, 2, none⟩ = some (.string a0_2) := (blk_cell BK180.out 2).trans rfl
   have hcz36_3 : w3.cell? ⟨gb180, 3, none⟩ = some (.slice A0_3 l0_3.length c0_3) := (blk_cell BK180.out 3).trans rfl
   have hcz36_4 : w3.cell? ⟨gb180, 4, none⟩ = some (.slice A0_4 l0_4.length c0_4) := (blk_cell BK180.out 4).trans rfl
   have hfz36_0 := blk_frozen BK180.out 0
   have hfz36_1 := blk_frozen BK180.out 1
   have hfz36_2 := blk_frozen BK180.out 2
   have hfz36_3 := blk_frozen BK180.out 3
   have hfz36_4 := blk_frozen BK180.out 4
   go_wp2_with (first | ((with_reducible refine gate_callee (f := 33) rfl ?_); refine goesL_ (some 9) rfl rfl Tryd.func33 kr_ rfl #[.agg #[.int .i64 a0_0, .string a0_1]] rfl rl_ ?_; (with_reducible refine (tollref03_May.calls k a0_0 a0_1 false _ A4.out).mono ?_); rintro e w37 ⟨rfl, hb⟩; refine ⟨_, rfl, ?_⟩; have n0_ := am_ (blk_below (g := gb180) (o := .cells #[.int .i64 a0_0, .string a0_1, .string a0_2, .slice A0_3 l0_3.length c0_3, .slice A0_4 l0_4.length c0_4] 26 (0, 0)) (blk_ BK180.out) hb); have n1_ := am_ (below_step (bel_ HB.out) hb); clear BK180 HB; have BK180 := n0_; have HB := n1_; clear n0_ n1_; (try clear hb); (try clear hb2); (try clear hk); (try clear hi)))
   go_meet
   case rel => exact ⟨_, (true), sd_, H', ⟨by first | omega | exact Nat.le_refl _⟩, ⟨by (with_reducible repeat (first | refine blk_drewN ?_ _ | refine blk_drew ?_ | refine blk_alloc ?_ _)); exact BK180.out⟩, ⟨bel_ HB.out⟩⟩
 case rest =>
  clear HC2
  try clear c1
  try clear c2
  try clear p2
  try clear c3
  try clear c5
  try clear c6
  try clear c6b0
  try clear c6b1
  try clear c6b2
  try clear c7
  try clear c7b0
  try clear c7b1
  try clear c11
  try clear c11b0
  try clear c11b1
  try clear c13
  try clear c20
  try clear c21
  try clear c21b0
  try clear c21b1
  try clear c25
  try clear c25b0
  try clear c25b1
  try clear c33
  try clear hcz10_0
  try clear hcz10_1
  try clear hcz10_2
  try clear hcz10_3
  try clear hcz10_4
  try clear hcz12_0
  try clear hcz12_1
  try clear hcz12_2
  try clear hcz12_3
  try clear hcz12_4
  try clear hcz14_0
  try clear hcz14_1
  try clear hcz14_2
  try clear hcz14_3
  try clear hcz14_4
  try clear hcz16_0
  try clear hcz16_1
  try clear hcz16_2
  try clear hcz16_3
  try clear hcz16_4
  try clear hcz18_0
  try clear hcz18_1
  try clear hcz18_2
  try clear hcz18_3
  try clear hcz18_4
  try clear hcz22_0
  try clear hcz22_1
  try clear hcz22_2
  try clear hcz22_3
  try clear hcz22_4
  try clear hcz24_0
  try clear hcz24_1
  try clear hcz24_2
  try clear hcz24_3
  try clear hcz24_4
  try clear hcz26_0
  try clear hcz26_1
  try clear hcz26_2
  try clear hcz26_3
  try clear hcz26_4
  try clear hcz28_0
  try clear hcz28_1
  try clear hcz28_2
  try clear hcz28_3
  try clear hcz28_4
  try clear hcz30_0
  try clear hcz30_1
  try clear hcz30_2
  try clear hcz30_3
  try clear hcz30_4
  try clear hcz32_0
  try clear hcz32_1
  try clear hcz32_2
  try clear hcz32_3
  try clear hcz32_4
  try clear hcz33_0
  try clear hcz33_1
  try clear hcz33_2
  try clear hcz33_3
  try clear hcz33_4
  try clear hcz35_0
  try clear hcz35_1
  try clear hcz35_2
  try clear hcz35_3
  try clear hcz35_4
  try clear hcz36_0
  try clear hcz36_1
  try clear hcz36_2
  try clear hcz36_3
  try clear hcz36_4
  try clear hcz8_0
  try clear hcz8_1
  try clear hcz8_2
  try clear hcz8_3
  try clear hcz8_4
  try clear hfz10_0
  try clear hfz10_1
  try clear hfz10_2
  try clear hfz10_3
  try clear hfz10_4
  try clear hfz12_0
  try clear hfz12_1
  try clear hfz12_2
  try clear hfz12_3
  try clear hfz12_4
  try clear hfz14_0
  try clear hfz14_1
  try clear hfz14_2
  try clear hfz14_3
  try clear hfz14_4
  try clear hfz16_0
  try clear hfz16_1
  try clear hfz16_2
  try clear hfz16_3
  try clear hfz16_4
  try clear hfz18_0
  try clear hfz18_1
  try clear hfz18_2
  try clear hfz18_3
  try clear hfz18_4
  try clear hfz22_0
  try clear hfz22_1
  try clear hfz22_2
  try clear hfz22_3
  try clear hfz22_4
  try clear hfz24_0
  try clear hfz24_1
  try clear hfz24_2
  try clear hfz24_3
  try clear hfz24_4
  try clear hfz26_0
  try clear hfz26_1
  try clear hfz26_2
  try clear hfz26_3
  try clear hfz26_4
  try clear hfz28_0
  try clear hfz28_1
  try clear hfz28_2
  try clear hfz28_3
  try clear hfz28_4
  try clear hfz30_0
  try clear hfz30_1
  try clear hfz30_2
  try clear hfz30_3
  try clear hfz30_4
  try clear hfz32_0
  try clear hfz32_1
  try clear hfz32_2
  try clear hfz32_3
  try clear hfz32_4
  try clear hfz33_0
  try clear hfz33_1
  try clear hfz33_2
  try clear hfz33_3
  try clear hfz33_4
  try clear hfz35_0
  try clear hfz35_1
  try clear hfz35_2
  try clear hfz35_3
  try clear hfz35_4
  try clear hfz36_0
  try clear hfz36_1
  try clear hfz36_2
  try clear hfz36_3
  try clear hfz36_4
  try clear hfz8_0
  try clear hfz8_1
  try clear hfz8_2
  try clear hfz8_3
  try clear hfz8_4
  obtain ⟨kq, x39_1, rfl, HA, HJ1, BK180, HB⟩ := hcut
  cases kq with
  | zero => exact absurd HA.out (by simp [tollref06_May.j0])
  | succ kj1 =>
   have H := HA.out
   clear HA
   simp only [tollref06_May.j0] at H
   by_cases c38 : x39_1 = true
   ·subst c38
    have H1 : (some false) = some r := by rw [if_pos rfl] at H; exact H
    clear H
    have H := H1
    clear H1
    obtain rfl := Option.some.inj H
    go_wp2
    go_ret
    exact ⟨fi_, bel_ HB.out⟩
   ·replace c38 := Bool.eq_false_iff.mpr c38
    subst c38
    have H1 : (tollref06_May.l0 kj1 0 a0_0 a0_1 a0_2 l0_3 l0_4) = some r := by rw [if_neg (show ¬ (false = true) by decide)] at H; exact H
    clear H
    have H := H1
    clear H1
    have H' := Aside0.mk H
    clear H
    go_wp2
    go_loopg [3] kj1 (fun kq v3 w' => ∃ (x3_2 : Int), v3 = .int .i64 x3_2 ∧ Aside0 (tollref06_May.l0 kq x3_2 a0_0 a0_1 a0_2 l0_3 l0_4 = some r) ∧ Aside0 (kq ≤ kj1) ∧ Aside0 (w'.heap[gb180]? = some (.cells #[.int .i64 a0_0, .string a0_1, .string a0_2, (.slice A0_3 l0_3.length c0_3), (.slice A0_4 l0_4.length c0_4)] 26 (0, 0))) ∧ Aside0 (Below w.heap.size w w'))
    case atStart => exact ⟨(0), sd_, H', ⟨Nat.le_refl _⟩, ⟨by (with_reducible repeat (first | refine blk_drewN ?_ _ | refine blk_drew ?_ | refine blk_alloc ?_ _)); exact BK180.out⟩, ⟨bel_ HB.out⟩⟩
    case round =>
     clear H'
     try clear c1
     try clear c2
     try clear p2
     try clear c3
     try clear c5
     try clear c6
     try clear c6b0
     try clear c6b1
     try clear c6b2
     try clear c7
     try clear c7b0
     try clear c7b1
     try clear c11
     try clear c11b0
     try clear c11b1
     try clear c13
     try clear c20
     try clear c21
     try clear c21b0
     try clear c21b1
     try clear c25
     try clear c25b0
     try clear c25b1
     try clear c33
     try clear c38
     try clear hcz10_0
     try clear hcz10_1
     try clear hcz10_2
     try clear hcz10_3
     try clear hcz10_4
     try clear hcz12_0
     try clear hcz12_1
     try clear hcz12_2
     try clear hcz12_3
     try clear hcz12_4
     try clear hcz14_0
     try clear hcz14_1
     try clear hcz14_2
     try clear hcz14_3
     try clear hcz14_4
     try clear hcz16_0
     try clear hcz16_1
     try clear hcz16_2
     try clear hcz16_3
     try clear hcz16_4
     try clear hcz18_0
     try clear hcz18_1
     try clear hcz18_2
     try clear hcz18_3
     try clear hcz18_4
     try clear hcz22_0
     try clear hcz22_1
     try clear hcz22_2
     try clear hcz22_3
     try clear hcz22_4
     try clear hcz24_0
     try clear hcz24_1
     try clear hcz24_2
     try clear hcz24_3
     try clear hcz24_4
     try clear hcz26_0
     try clear hcz26_1
     try clear hcz26_2
     try clear hcz26_3
     try clear hcz26_4
     try clear hcz28_0
     try clear hcz28_1
     try clear hcz28_2
     try clear hcz28_3
     try clear hcz28_4
     try clear hcz30_0
     try clear hcz30_1
     try clear hcz30_2
     try clear hcz30_3
     try clear hcz30_4
     try clear hcz32_0
     try clear hcz32_1
     try clear hcz32_2
     try clear hcz32_3
     try clear hcz32_4
     try clear hcz33_0
     try clear hcz33_1
     try clear hcz33_2
     try clear hcz33_3
     try clear hcz33_4
     try clear hcz35_0
     try clear hcz35_1
     try clear hcz35_2
     try clear hcz35_3
     try clear hcz35_4
     try clear hcz36_0
     try clear hcz36_1
     try clear hcz36_2
     try clear hcz36_3
     try clear hcz36_4
     try clear hcz8_0
     try clear hcz8_1
     try clear hcz8_2
     try clear hcz8_3
     try clear hcz8_4
     try clear hfz10_0
     try clear hfz10_1
     try clear hfz10_2
     try clear hfz10_3
     try clear hfz10_4
     try clear hfz12_0
     try clear hfz12_1
     try clear hfz12_2
     try clear hfz12_3
     try clear hfz12_4
     try clear hfz14_0
     try clear hfz14_1
     try clear hfz14_2
     try clear hfz14_3
     try clear hfz14_4
     try clear hfz16_0
     try clear hfz16_1
     try clear hfz16_2
     try clear hfz16_3
     try clear hfz16_4
     try clear hfz18_0
     try clear hfz18_1
     try clear hfz18_2
     try clear hfz18_3
     try clear hfz18_4
     try clear hfz22_0
     try clear hfz22_1
     try clear hfz22_2
     try clear hfz22_3
     try clear hfz22_4
     try clear hfz24_0
     try clear hfz24_1
     try clear hfz24_2
     try clear hfz24_3
     try clear hfz24_4
     try clear hfz26_0
     try clear hfz26_1
     try clear hfz26_2
     try clear hfz26_3
     try clear hfz26_4
     try clear hfz28_0
     try clear hfz28_1
     try clear hfz28_2
     try clear hfz28_3
     try clear hfz28_4
     try clear hfz30_0
     try clear hfz30_1
     try clear hfz30_2
     try clear hfz30_3
     try clear hfz30_4
     try clear hfz32_0
     try clear hfz32_1
     try clear hfz32_2
     try clear hfz32_3
     try clear hfz32_4
     try clear hfz33_0
     try clear hfz33_1
     try clear hfz33_2
     try clear hfz33_3
     try clear hfz33_4
     try clear hfz35_0
     try clear hfz35_1
     try clear hfz35_2
     try clear hfz35_3
     try clear hfz35_4
     try clear hfz36_0
     try clear hfz36_1
     try clear hfz36_2
     try clear hfz36_3
     try clear hfz36_4
     try clear hfz8_0
     try clear hfz8_1
     try clear hfz8_2
     try clear hfz8_3
     try clear hfz8_4
     try clear p2
     obtain ⟨x3_2, rfl, HA, HK2, BK180, HB⟩ := hrel
     cases gk with
     | zero => exact absurd HA.out (by simp [tollref06_May.l0])
     | succ k2 =>
      have H := HA.out
      clear HA
      simp only [tollref06_May.l0] at H
      by_cases c39 : x3_2 < (l0_3.length : Int)
      ·rw [if_pos c39] at H
       have c39b0 : decide (x3_2 < (l0_3.length : Int)) = true := decide_eq_true c39
       clear c39
       have HC40 := Aside0.mk H
       clear H
       have hcz41_0 : wr.cell? ⟨gb180, 0, none⟩ = some (.int .i64 a0_0) := (blk_cell BK180.out 0).trans rfl
       have hcz41_1 : wr.cell? ⟨gb180, 1, none⟩ = some (.string a0_1) := (blk_cell BK180.out 1).trans rfl
       have hcz41_2 : wr.cell? ⟨gb180, 2, none⟩ = some (.string a0_2) := (blk_cell BK180.out 2).trans rfl
       have hcz41_3 : wr.cell? ⟨gb180, 3, none⟩ = some (.slice A0_3 l0_3.length c0_3) := (blk_cell BK180.out 3).trans rfl
       have hcz41_4 : wr.cell? ⟨gb180, 4, none⟩ = some (.slice A0_4 l0_4.length c0_4) := (blk_cell BK180.out 4).trans rfl
       have hfz41_0 := blk_frozen BK180.out 0
       have hfz41_1 := blk_frozen BK180.out 1
       have hfz41_2 := blk_frozen BK180.out 2
       have hfz41_3 := blk_frozen BK180.out 3
       have hfz41_4 := blk_frozen BK180.out 4
       go_upto_region 6 with (fail)
       go_cut [64] (fun v64 wc => ∃ (kq : Nat) (x64_39 : Bool), v64 = .bool x64_39 ∧ Aside0 (tollref06_May.j2 kq x3_2 x64_39 a0_0 a0_1 a0_2 l0_3 l0_4 = some r) ∧ Aside0 (kq ≤ k2) ∧ Aside0 (wc.heap[gb180]? = some (.cells #[.int .i64 a0_0, .string a0_1, .string a0_2, (.slice A0_3 l0_3.length c0_3), (.slice A0_4 l0_4.length c0_4)] 26 (0, 0))) ∧ Aside0 (Below w.heap.size w wc))
       case first =>
        have H := HC40.out
        clear HC40
        by_cases c42 : 0 ≤ x3_2
        ·rw [if_pos c42] at H
         have c42b0 : decide (0 ≤ x3_2) = true := decide_eq_true c42
         clear c42
         (first | rw [c42b0] | rw [c42b1] | rw [c42b2] | (simp only [i64_w, i32_w]; rw [c42b0]) | skip)
         replace H := Option.bind_eq_some_iff.mp H
         obtain ⟨t186, A430, H⟩ := H
         replace H : (if t186 = true then ((tollref05_Value.f k2 ((rd_T49 l0_3 x3_2).f1)).bind fun t188 => (tollref06_May.j2 k2 x3_2 (!t188) a0_0 a0_1 a0_2 l0_3 l0_4)) else (tollref06_May.j2 k2 x3_2 true a0_0 a0_1 a0_2 l0_3 l0_4)) = some r := H
         have A43 := Aside0.mk A430
         clear A430
         by_cases c44 : t186 = true
         ·subst c44
          have H1 : ((tollref05_Value.f k2 ((rd_T49 l0_3 x3_2).f1)).bind fun t188 => (tollref06_May.j2 k2 x3_2 (!t188) a0_0 a0_1 a0_2 l0_3 l0_4)) = some r := by rw [if_pos rfl] at H; exact H
          clear H
          have H := H1
          clear H1
          replace H := Option.bind_eq_some_iff.mp H
          obtain ⟨t188, A450, H⟩ := H
          replace H : (tollref06_May.j2 k2 x3_2 (!t188) a0_0 a0_1 a0_2 l0_3 l0_4) = some r := H
          have A45 := Aside0.mk A450
          clear A450
          have H' := Aside0.mk H
          clear H
          have hcz46_0 : wr.cell? ⟨gb180, 0, none⟩ = some (.int .i64 a0_0) := (blk_cell BK180.out 0).trans rfl
          have hcz46_1 : wr.cell? ⟨gb180, 1, none⟩ = some (.string a0_1) := (blk_cell BK180.out 1).trans rfl
          have hcz46_2 : wr.cell? ⟨gb180, 2, none⟩ = some (.string a0_2) := (blk_cell BK180.out 2).trans rfl
          have hcz46_3 : wr.cell? ⟨gb180, 3, none⟩ = some (.slice A0_3 l0_3.length c0_3) := (blk_cell BK180.out 3).trans rfl
          have hcz46_4 : wr.cell? ⟨gb180, 4, none⟩ = some (.slice A0_4 l0_4.length c0_4) := (blk_cell BK180.out 4).trans rfl
          have hfz46_0 := blk_frozen BK180.out 0
          have hfz46_1 := blk_frozen BK180.out 1
          have hfz46_2 := blk_frozen BK180.out 2
          have hfz46_3 := blk_frozen BK180.out 3
          have hfz46_4 := blk_frozen BK180.out 4
          have p185 : 0 ≤ (x3_2 : Int) := of_decide_eq_true as_
          have q185 : x3_2 < (l0_3.length : Int) := of_decide_eq_true as_
          obtain ⟨ad185, e185, hx185_0, hx185_1⟩ := at_T49 HR0_3.out x3_2 p185 q185
          cases e185
          replace hx185_0 := (HB.out.cell (World.block_lt_of_cell? w _ hx185_0)).trans hx185_0
          replace hx185_1 := (HB.out.cell (World.block_lt_of_cell? w _ hx185_1)).trans hx185_1
          replace p185 := eq_true p185
          replace q185 := eq_true q185
          go_wp2_with (first | ((with_reducible refine gate_callee (f := 35) rfl ?_); refine goesL_ (some 53) rfl rfl Tryd.func35 kr_ rfl #[.string ((rd_T49 l0_3 x3_2).f0)] rfl rl_ ?_; (with_reducible refine (tollref05_Token.calls k2 ((rd_T49 l0_3 x3_2).f0) true _ A43.out).mono ?_); rintro e w' ⟨rfl, ⟨nd, rfl⟩⟩; refine ⟨_, rfl, ?_⟩; have p187 : 0 ≤ (x3_2 : Int) := of_decide_eq_true as_; have q187 : x3_2 < (l0_3.length : Int) := of_decide_eq_true as_; obtain ⟨ad187, e187, hx187_0, hx187_1⟩ := at_T49 HR0_3.out x3_2 p187 q187; obtain rfl : ad185 = ad187 := (by injection e187); replace hx187_0 := (HB.out.cell (World.block_lt_of_cell? w _ hx187_0)).trans hx187_0; replace hx187_1 := (HB.out.cell (World.block_lt_of_cell? w _ hx187_1)).trans hx187_1; replace p187 := eq_true p187; replace q187 := eq_true q187) | (go_at_call 36; (with_reducible refine (tollref05_Value.calls k2 ((rd_T49 l0_3 x3_2).f1) t188 _ A45.out).mono ?_); rintro e w' ⟨rfl, ⟨nd, rfl⟩⟩))
          go_meet
          case rel => exact ⟨_, (!t188), sd_, H', ⟨by have := HJ1.out; have := HK2.out; first | omega | exact Nat.le_refl _⟩, ⟨by (with_reducible repeat (first | refine blk_drewN ?_ _ | refine blk_drew ?_ | refine blk_alloc ?_ _)); exact BK180.out⟩, ⟨bel_ HB.out⟩⟩
         ·replace c44 := Bool.eq_false_iff.mpr c44
          subst c44
          have H1 : (tollref06_May.j2 k2 x3_2 true a0_0 a0_1 a0_2 l0_3 l0_4) = some r := by rw [if_neg (show ¬ (false = true) by decide)] at H; exact H
          clear H
          have H := H1
          clear H1
          have H' := Aside0.mk H
          clear H
          have hcz47_0 : wr.cell? ⟨gb180, 0, none⟩ = some (.int .i64 a0_0) := (blk_cell BK180.out 0).trans rfl
          have hcz47_1 : wr.cell? ⟨gb180, 1, none⟩ = some (.string a0_1) := (blk_cell BK180.out 1).trans rfl
          have hcz47_2 : wr.cell? ⟨gb180, 2, none⟩ = some (.string a0_2) := (blk_cell BK180.out 2).trans rfl
          have hcz47_3 : wr.cell? ⟨gb180, 3, none⟩ = some (.slice A0_3 l0_3.length c0_3) := (blk_cell BK180.out 3).trans rfl
          have hcz47_4 : wr.cell? ⟨gb180, 4, none⟩ = some (.slice A0_4 l0_4.length c0_4) := (blk_cell BK180.out 4).trans rfl
          have hfz47_0 := blk_frozen BK180.out 0
          have hfz47_1 := blk_frozen BK180.out 1
          have hfz47_2 := blk_frozen BK180.out 2
          have hfz47_3 := blk_frozen BK180.out 3
          have hfz47_4 := blk_frozen BK180.out 4
          have p185 : 0 ≤ (x3_2 : Int) := of_decide_eq_true as_
          have q185 : x3_2 < (l0_3.length : Int) := of_decide_eq_true as_
          obtain ⟨ad185, e185, hx185_0, hx185_1⟩ := at_T49 HR0_3.out x3_2 p185 q185
          cases e185
          replace hx185_0 := (HB.out.cell (World.block_lt_of_cell? w _ hx185_0)).trans hx185_0
          replace hx185_1 := (HB.out.cell (World.block_lt_of_cell? w _ hx185_1)).trans hx185_1
          replace p185 := eq_true p185
          replace q185 := eq_true q185
          go_wp2_with (first | ((with_reducible refine gate_callee (f := 35) rfl ?_); refine goesL_ (some 53) rfl rfl Tryd.func35 kr_ rfl #[.string ((rd_T49 l0_3 x3_2).f0)] rfl rl_ ?_; (with_reducible refine (tollref05_Token.calls k2 ((rd_T49 l0_3 x3_2).f0) false _ A43.out).mono ?_); rintro e w' ⟨rfl, ⟨nd, rfl⟩⟩; refine ⟨_, rfl, ?_⟩))
          go_meet
          case rel => exact ⟨_, (true), sd_, H', ⟨by have := HJ1.out; have := HK2.out; first | omega | exact Nat.le_refl _⟩, ⟨by (with_reducible repeat (first | refine blk_drewN ?_ _ | refine blk_drew ?_ | refine blk_alloc ?_ _)); exact BK180.out⟩, ⟨bel_ HB.out⟩⟩
        ·rw [if_neg c42] at H
         exact absurd H (by simp)
       case rest =>
        clear HC40
        try clear c1
        try clear p1
        try clear q1
        try clear hx1
        try clear c2
        try clear p2
        try clear c3
        try clear c4
        try clear c5
        try clear c6
        try clear c6b0
        try clear c6b1
        try clear c6b2
        try clear c7
        try clear c7b0
        try clear c7b1
        try clear c11
        try clear c11b0
        try clear c11b1
        try clear c13
        try clear p18
        try clear q18
        try clear hx18
        try clear c20
        try clear c21
        try clear c21b0
        try clear c21b1
        try clear c25
        try clear c25b0
        try clear c25b1
        try clear c33
        try clear c35
        try clear c38
        try clear c39
        try clear c39b0
        try clear c42
        try clear c42b0
        try clear c42b1
        try clear c42b2
        try clear c44
        try clear hcz10_0
        try clear hcz10_1
        try clear hcz10_2
        try clear hcz10_3
        try clear hcz10_4
        try clear hcz12_0
        try clear hcz12_1
        try clear hcz12_2
        try clear hcz12_3
        try clear hcz12_4
        try clear hcz14_0
        try clear hcz14_1
        try clear hcz14_2
        try clear hcz14_3
        try clear hcz14_4
        try clear hcz16_0
        try clear hcz16_1
        try clear hcz16_2
        try clear hcz16_3
        try clear hcz16_4
        try clear hcz18_0
        try clear hcz18_1
        try clear hcz18_2
        try clear hcz18_3
        try clear hcz18_4
        try clear hcz22_0
        try clear hcz22_1
        try clear hcz22_2
        try clear hcz22_3
        try clear hcz22_4
        try clear hcz24_0
        try clear hcz24_1
        try clear hcz24_2
        try clear hcz24_3
        try clear hcz24_4
        try clear hcz26_0
        try clear hcz26_1
        try clear hcz26_2
        try clear hcz26_3
        try clear hcz26_4
        try clear hcz28_0
        try clear hcz28_1
        try clear hcz28_2
        try clear hcz28_3
        try clear hcz28_4
        try clear hcz30_0
        try clear hcz30_1
        try clear hcz30_2
        try clear hcz30_3
        try clear hcz30_4
        try clear hcz32_0
        try clear hcz32_1
        try clear hcz32_2
        try clear hcz32_3
        try clear hcz32_4
        try clear hcz33_0
        try clear hcz33_1
        try clear hcz33_2
        try clear hcz33_3
        try clear hcz33_4
        try clear hcz35_0
        try clear hcz35_1
        try clear hcz35_2
        try clear hcz35_3
        try clear hcz35_4
        try clear hcz36_0
        try clear hcz36_1
        try clear hcz36_2
        try clear hcz36_3
        try clear hcz36_4
        try clear hcz41_0
        try clear hcz41_1
        try clear hcz41_2
        try clear hcz41_3
        try clear hcz41_4
        try clear hcz46_0
        try clear hcz46_1
        try clear hcz46_2
        try clear hcz46_3
        try clear hcz46_4
        try clear hcz47_0
        try clear hcz47_1
        try clear hcz47_2
        try clear hcz47_3
        try clear hcz47_4
        try clear hcz8_0
        try clear hcz8_1
        try clear hcz8_2
        try clear hcz8_3
        try clear hcz8_4
        try clear hfz10_0
        try clear hfz10_1
        try clear hfz10_2
        try clear hfz10_3
        try clear hfz10_4
        try clear hfz12_0
        try clear hfz12_1
        try clear hfz12_2
        try clear hfz12_3
        try clear hfz12_4
        try clear hfz14_0
        try clear hfz14_1
        try clear hfz14_2
        try clear hfz14_3
        try clear hfz14_4
        try clear hfz16_0
        try clear hfz16_1
        try clear hfz16_2
        try clear hfz16_3
        try clear hfz16_4
        try clear hfz18_0
        try clear hfz18_1
        try clear hfz18_2
        try clear hfz18_3
        try clear hfz18_4
        try clear hfz22_0
        try clear hfz22_1
        try clear hfz22_2
        try clear hfz22_3
        try clear hfz22_4
        try clear hfz24_0
        try clear hfz24_1
        try clear hfz24_2
        try clear hfz24_3
        try clear hfz24_4
        try clear hfz26_0
        try clear hfz26_1
        try clear hfz26_2
        try clear hfz26_3
        try clear hfz26_4
        try clear hfz28_0
        try clear hfz28_1
        try clear hfz28_2
        try clear hfz28_3
        try clear hfz28_4
        try clear hfz30_0
        try clear hfz30_1
        try clear hfz30_2
        try clear hfz30_3
        try clear hfz30_4
        try clear hfz32_0
        try clear hfz32_1
        try clear hfz32_2
        try clear hfz32_3
        try clear hfz32_4
        try clear hfz33_0
        try clear hfz33_1
        try clear hfz33_2
        try clear hfz33_3
        try clear hfz33_4
        try clear hfz35_0
        try clear hfz35_1
        try clear hfz35_2
        try clear hfz35_3
        try clear hfz35_4
        try clear hfz36_0
        try clear hfz36_1
        try clear hfz36_2
        try clear hfz36_3
        try clear hfz36_4
        try clear hfz41_0
        try clear hfz41_1
        try clear hfz41_2
        try clear hfz41_3
        try clear hfz41_4
        try clear hfz46_0
        try clear hfz46_1
        try clear hfz46_2
        try clear hfz46_3
        try clear hfz46_4
        try clear hfz47_0
        try clear hfz47_1
        try clear hfz47_2
        try clear hfz47_3
        try clear hfz47_4
        try clear hfz8_0
        try clear hfz8_1
        try clear hfz8_2
        try clear hfz8_3
        try clear hfz8_4
        try clear hx185_0
        try clear hx185_1
        try clear hx187_0
        try clear hx187_1
        try clear p185
        try clear p187
        try clear p2
        try clear q185
        try clear q187
        obtain ⟨kq, x64_39, rfl, HA, HJ39, BK180, HB⟩ := hcut
        cases kq with
        | zero => exact absurd HA.out (by simp [tollref06_May.j2])
        | succ kj39 =>
         have H := HA.out
         clear HA
         simp only [tollref06_May.j2] at H
         by_cases c48 : x64_39 = true
         ·subst c48
          have H1 : (some false) = some r := by rw [if_pos rfl] at H; exact H
          clear H
          have H := H1
          clear H1
          obtain rfl := Option.some.inj H
          go_wp2
          go_ret
          exact ⟨fi_, bel_ HB.out⟩
         ·replace c48 := Bool.eq_false_iff.mpr c48
          subst c48
          have H1 : (tollref06_May.l1 kj39 x3_2 0 a0_0 a0_1 a0_2 l0_3 l0_4) = some r := by rw [if_neg (show ¬ (false = true) by decide)] at H; exact H
          clear H
          have H := H1
          clear H1
          have H' := Aside0.mk H
          clear H
          go_wp2
          go_loopg [4] kj39 (fun kq v4 w' => ∃ (x4_4 : Int), v4 = .int .i64 x4_4 ∧ Aside0 (tollref06_May.l1 kq x3_2 x4_4 a0_0 a0_1 a0_2 l0_3 l0_4 = some r) ∧ Aside0 (kq ≤ kj39) ∧ Aside0 (w'.heap[gb180]? = some (.cells #[.int .i64 a0_0, .string a0_1, .string a0_2, (.slice A0_3 l0_3.length c0_3), (.slice A0_4 l0_4.length c0_4)] 26 (0, 0))) ∧ Aside0 (Below w.heap.size w w'))
          case atStart => exact ⟨(0), sd_, H', ⟨Nat.le_refl _⟩, ⟨by (with_reducible repeat (first | refine blk_drewN ?_ _ | refine blk_drew ?_ | refine blk_alloc ?_ _)); exact BK180.out⟩, ⟨bel_ HB.out⟩⟩
          case round =>
           clear H'
           try clear c1
           try clear p1
           try clear q1
           try clear hx1
           try clear c2
           try clear p2
           try clear c3
           try clear c4
           try clear c5
           try clear c6
           try clear c6b0
           try clear c6b1
           try clear c6b2
           try clear c7
           try clear c7b0
           try clear c7b1
           try clear c11
           try clear c11b0
           try clear c11b1
           try clear c13
           try clear p18
           try clear q18
           try clear hx18
           try clear c20
           try clear c21
           try clear c21b0
           try clear c21b1
           try clear c25
           try clear c25b0
           try clear c25b1
           try clear c33
           try clear c35
           try clear c38
           try clear c39
           try clear c39b0
           try clear c42
           try clear c42b0
           try clear c42b1
           try clear c42b2
           try clear c44
           try clear c48
           try clear hcz10_0
           try clear hcz10_1
           try clear hcz10_2
           try clear hcz10_3
           try clear hcz10_4
           try clear hcz12_0
           try clear hcz12_1
           try clear hcz12_2
           try clear hcz12_3
           try clear hcz12_4
           try clear hcz14_0
           try clear hcz14_1
           try clear hcz14_2
           try clear hcz14_3
           try clear hcz14_4
           try clear hcz16_0
           try clear hcz16_1
           try clear hcz16_2
           try clear hcz16_3
           try clear hcz16_4
           try clear hcz18_0
           try clear hcz18_1
           try clear hcz18_2
           try clear hcz18_3
           try clear hcz18_4
           try clear hcz22_0
           try clear hcz22_1
           try clear hcz22_2
           try clear hcz22_3
           try clear hcz22_4
           try clear hcz24_0
           try clear hcz24_1
           try clear hcz24_2
           try clear hcz24_3
           try clear hcz24_4
           try clear hcz26_0
           try clear hcz26_1
           try clear hcz26_2
           try clear hcz26_3
           try clear hcz26_4
           try clear hcz28_0
           try clear hcz28_1
           try clear hcz28_2
           try clear hcz28_3
           try clear hcz28_4
           try clear hcz30_0
           try clear hcz30_1
           try clear hcz30_2
           try clear hcz30_3
           try clear hcz30_4
           try clear hcz32_0
           try clear hcz32_1
           try clear hcz32_2
           try clear hcz32_3
           try clear hcz32_4
           try clear hcz33_0
           try clear hcz33_1
           try clear hcz33_2
           try clear hcz33_3
           try clear hcz33_4
           try clear hcz35_0
           try clear hcz35_1
           try clear hcz35_2
           try clear hcz35_3
           try clear hcz35_4
           try clear hcz36_0
           try clear hcz36_1
           try clear hcz36_2
           try clear hcz36_3
           try clear hcz36_4
           try clear hcz41_0
           try clear hcz41_1
           try clear hcz41_2
           try clear hcz41_3
           try clear hcz41_4
           try clear hcz46_0
           try clear hcz46_1
           try clear hcz46_2
           try clear hcz46_3
           try clear hcz46_4
           try clear hcz47_0
           try clear hcz47_1
           try clear hcz47_2
           try clear hcz47_3
           try clear hcz47_4
           try clear hcz8_0
           try clear hcz8_1
           try clear hcz8_2
           try clear hcz8_3
           try clear hcz8_4
           try clear hfz10_0
           try clear hfz10_1
           try clear hfz10_2
           try clear hfz10_3
           try clear hfz10_4
           try clear hfz12_0
           try clear hfz12_1
           try clear hfz12_2
           try clear hfz12_3
           try clear hfz12_4
           try clear hfz14_0
           try clear hfz14_1
           try clear hfz14_2
           try clear hfz14_3
           try clear hfz14_4
           try clear hfz16_0
           try clear hfz16_1
           try clear hfz16_2
           try clear hfz16_3
           try clear hfz16_4
           try clear hfz18_0
           try clear hfz18_1
           try clear hfz18_2
           try clear hfz18_3
           try clear hfz18_4
           try clear hfz22_0
           try clear hfz22_1
           try clear hfz22_2
           try clear hfz22_3
           try clear hfz22_4
           try clear hfz24_0
           try clear hfz24_1
           try clear hfz24_2
           try clear hfz24_3
           try clear hfz24_4
           try clear hfz26_0
           try clear hfz26_1
           try clear hfz26_2
           try clear hfz26_3
           try clear hfz26_4
           try clear hfz28_0
           try clear hfz28_1
           try clear hfz28_2
           try clear hfz28_3
           try clear hfz28_4
           try clear hfz30_0
           try clear hfz30_1
           try clear hfz30_2
           try clear hfz30_3
           try clear hfz30_4
           try clear hfz32_0
           try clear hfz32_1
           try clear hfz32_2
           try clear hfz32_3
           try clear hfz32_4
           try clear hfz33_0
           try clear hfz33_1
           try clear hfz33_2
           try clear hfz33_3
           try clear hfz33_4
           try clear hfz35_0
           try clear hfz35_1
           try clear hfz35_2
           try clear hfz35_3
           try clear hfz35_4
           try clear hfz36_0
           try clear hfz36_1
           try clear hfz36_2
           try clear hfz36_3
           try clear hfz36_4
           try clear hfz41_0
           try clear hfz41_1
           try clear hfz41_2
           try clear hfz41_3
           try clear hfz41_4
           try clear hfz46_0
           try clear hfz46_1
           try clear hfz46_2
           try clear hfz46_3
           try clear hfz46_4
           try clear hfz47_0
           try clear hfz47_1
           try clear hfz47_2
           try clear hfz47_3
           try clear hfz47_4
           try clear hfz8_0
           try clear hfz8_1
           try clear hfz8_2
           try clear hfz8_3
           try clear hfz8_4
           try clear hx185_0
           try clear hx185_1
           try clear hx187_0
           try clear hx187_1
           try clear p1
           try clear p18
           try clear p185
           try clear p187
           try clear p2
           try clear q1
           try clear q18
           try clear q185
           try clear q187
           obtain ⟨x4_4, rfl, HA, HK4, BK180, HB⟩ := hrel
           cases gk with
           | zero => exact absurd HA.out (by simp [tollref06_May.l1])
           | succ k4 =>
            have H := HA.out
            clear HA
            simp only [tollref06_May.l1] at H
            by_cases c49 : x4_4 < x3_2
            ·rw [if_pos c49] at H
             have c49b0 : decide (x4_4 < x3_2) = true := decide_eq_true c49
             clear c49
             by_cases c50 : 0 ≤ x3_2
             ·rw [if_pos c50] at H
              have c50b0 : decide (0 ≤ x3_2) = true := decide_eq_true c50
              clear c50
              by_cases c51 : x3_2 < (l0_3.length : Int)
              ·rw [if_pos c51] at H
               have c51b0 : decide (x3_2 < (l0_3.length : Int)) = true := decide_eq_true c51
               clear c51
               by_cases c52 : 0 ≤ x4_4
               ·rw [if_pos c52] at H
                have c52b0 : decide (0 ≤ x4_4) = true := decide_eq_true c52
                clear c52
                by_cases c53 : x4_4 < (l0_3.length : Int)
                ·rw [if_pos c53] at H
                 have c53b0 : decide (x4_4 < (l0_3.length : Int)) = true := decide_eq_true c53
                 clear c53
                 replace H := Option.bind_eq_some_iff.mp H
                 obtain ⟨t191, A540, H⟩ := H
                 replace H : (if t191 = true then (some false) else (tollref06_May.l1 k4 x3_2 (wrap64 (x4_4 + 1)) a0_0 a0_1 a0_2 l0_3 l0_4)) = some r := H
                 have A54 := Aside0.mk A540
                 clear A540
                 by_cases c55 : t191 = true
                 ·subst c55
                  have H1 : (some false) = some r := by rw [if_pos rfl] at H; exact H
                  clear H
                  have H := H1
                  clear H1
                  obtain rfl := Option.some.inj H
                  try go_wp2
                  have n0_ := am_ (blk_drew BK180.out)
                  have n1_ := am_ (below_drew1 HB.out)
                  clear BK180 HB
                  have BK180 := n0_
                  have HB := n1_
                  clear n0_ n1_
                  have p189 : 0 ≤ (x3_2 : Int) := of_decide_eq_true as_
                  have q189 : x3_2 < (l0_3.length : Int) := of_decide_eq_true as_
                  obtain ⟨ad189, e189, hx189_0, hx189_1⟩ := at_T49 HR0_3.out x3_2 p189 q189
                  have hw189_1 := hx189_1
                  have hw189_0 := hx189_0
                  cases e189
                  replace hx189_0 := (HB.out.cell (World.block_lt_of_cell? w _ hx189_0)).trans hx189_0
                  replace hx189_1 := (HB.out.cell (World.block_lt_of_cell? w _ hx189_1)).trans hx189_1
                  replace p189 := eq_true p189
                  replace q189 := eq_true q189
                  have p190 : 0 ≤ (x4_4 : Int) := of_decide_eq_true as_
                  have q190 : x4_4 < (l0_3.length : Int) := of_decide_eq_true as_
                  obtain ⟨ad190, e190, hx190_0, hx190_1⟩ := at_T49 HR0_3.out x4_4 p190 q190
                  have hw190_1 := hx190_1
                  have hw190_0 := hx190_0
                  obtain rfl : ad189 = ad190 := (by injection e190)
                  replace hx190_0 := (HB.out.cell (World.block_lt_of_cell? w _ hx190_0)).trans hx190_0
                  replace hx190_1 := (HB.out.cell (World.block_lt_of_cell? w _ hx190_1)).trans hx190_1
                  replace p190 := eq_true p190
                  replace q190 := eq_true q190
                  refine start_ (n := 13) (S := fun w' => w'.cell? ⟨gb180, 0, none⟩ = some (.int .i64 a0_0) ∧ w'.cell? ⟨gb180, 1, none⟩ = some (.string a0_1) ∧ w'.cell? ⟨gb180, 2, none⟩ = some (.string a0_2) ∧ w'.cell? ⟨gb180, 3, none⟩ = some (.slice (some ad189) l0_3.length c0_3) ∧ w'.cell? ⟨gb180, 4, none⟩ = some (.slice A0_4 l0_4.length c0_4) ∧ w'.cell? (ad189.add ((x3_2).toNat * 2)) = some (.string ((rd_T49 l0_3 x3_2).f0)) ∧ w'.cell? ⟨(ad189.add ((x3_2).toNat * 2)).block, (ad189.add ((x3_2).toNat * 2)).off + 1, none⟩ = some (.string ((rd_T49 l0_3 x3_2).f1)) ∧ w'.cell? (ad189.add ((x4_4).toNat * 2)) = some (.string ((rd_T49 l0_3 x4_4).f0)) ∧ w'.cell? ⟨(ad189.add ((x4_4).toNat * 2)).block, (ad189.add ((x4_4).toNat * 2)).off + 1, none⟩ = some (.string ((rd_T49 l0_3 x4_4).f1))) (ds := []) #[false, false, false, false, false, false, false, false, false, false, false, false, false] kr_ rfl rfl ⟨(blk_cell BK180.out 0).trans rfl, (blk_cell BK180.out 1).trans rfl, (blk_cell BK180.out 2).trans rfl, (blk_cell BK180.out 3).trans rfl, (blk_cell BK180.out 4).trans rfl, ((HB.out.cell (World.block_lt_of_cell? w _ hw189_0)).trans hw189_0), ((HB.out.cell (World.block_lt_of_cell? w _ hw189_1)).trans hw189_1), ((HB.out.cell (World.block_lt_of_cell? w _ hw190_0)).trans hw190_0), ((HB.out.cell (World.block_lt_of_cell? w _ hw190_1)).trans hw190_1)⟩ (fun hHeld => ?_); refine with_tabW tollref06_May.tab11 tollref06_May.bits11 (fun HT_ HW_ => ?_)
                  generalize wr.drew = w56 at BK180 HB hx189_0 hx189_1 hx190_0 hx190_1 hHeld ⊢
                  refine pure_ (i := 0) (N := some 70) (v := ?_) (a' := ?_) #[true, false, false, false, false, false, false, false, false, false, false, false, false] rfl rfl (any_of HT_.out kr_) (fun _ _ _ h => h) (Or.inl ⟨by rfl, ?_⟩) ?_ ?_
                  rotate_left
                  ·intro w'
                   go_simp
                   with_reducible rfl
                  rotate_left
                  ·simp only [Act.put, sx_, s0_, s1_, i64_w, i32_w]
                   rfl
                  refine pure_ (i := 2) (N := some 72) (v := ?_) (a' := ?_) #[true, false, true, false, false, false, false, false, false, false, false, false, false] rfl rfl (any_of HT_.out kr_) (fun _ _ _ h => h) (Or.inl ⟨by rfl, ?_⟩) ?_ ?_
                  rotate_left
                  ·intro w'
                   go_simp
                   with_reducible rfl
                  rotate_left
                  ·simp only [Act.put, sx_, s0_, s1_, i64_w, i32_w]
                   rfl
                  refine pure_ (i := 6) (N := some 76) (v := ?_) (a' := ?_) #[true, false, true, false, false, false, true, false, false, false, false, false, false] rfl rfl (any_of HT_.out kr_) (fun _ _ _ h => h) (Or.inl ⟨by rfl, ?_⟩) ?_ ?_
                  rotate_left
                  ·intro w'
                   go_simp
                   with_reducible rfl
                  rotate_left
                  ·simp only [Act.put, sx_, s0_, s1_, i64_w, i32_w]
                   rfl
                  refine pure_ (i := 8) (N := some 78) (v := ?_) (a' := ?_) #[true, false, true, false, false, false, true, false, true, false, false, false, false] rfl rfl (any_of HT_.out kr_) (fun _ _ _ h => h) (Or.inl ⟨by rfl, ?_⟩) ?_ ?_
                  rotate_left
                  ·intro w'
                   go_simp
                   with_reducible rfl
                  rotate_left
                  ·simp only [Act.put, sx_, s0_, s1_, i64_w, i32_w]
                   rfl
                  refine take_ (i := 1) (N := some 71) (v := ?_) (a' := ?_) #[true, true, true, false, false, false, true, false, true, false, false, false, false] rfl rfl (take_ofW HT_.out HW_.out kr_) (fun _ _ _ h => h) (Or.inl ⟨by rfl, ?_⟩) hHeld ?_ ?_
                  rotate_left
                  ·rintro w' ⟨s0, s1, s2, s3, s4, s5, s6, s7, s8⟩
                   go_simp
                   with_reducible rfl
                  rotate_left
                  ·simp only [Act.put, sx_, s0_, s1_, i64_w, i32_w]
                   rfl
                  refine pure_ (i := 3) (N := some 73) (v := ?_) (a' := ?_) #[true, true, true, true, false, false, true, false, true, false, false, false, false] rfl rfl (any_of HT_.out kr_) (fun _ _ _ h => h) (Or.inl ⟨by rfl, ?_⟩) ?_ ?_
                  rotate_left
                  ·intro w'
                   go_simp
                   with_reducible rfl
                  rotate_left
                  ·simp only [Act.put, sx_, s0_, s1_, i64_w, i32_w]
                   rfl
                  refine pure_ (i := 4) (N := some 74) (v := ?_) (a' := ?_) #[true, true, true, true, true, false, true, false, true, false, false, false, false] rfl rfl (any_of HT_.out kr_) (fun _ _ _ h => h) (Or.inl ⟨by rfl, ?_⟩) ?_ ?_
                  rotate_left
                  ·intro w'
                   go_simp
                   with_reducible rfl
                  rotate_left
                  ·simp only [Act.put, sx_, s0_, s1_, i64_w, i32_w]
                   rfl
                  refine take_ (i := 5) (N := some 75) (v := ?_) (a' := ?_) #[true, true, true, true, true, true, true, false, true, false, false, false, false] rfl rfl (take_ofW HT_.out HW_.out kr_) (fun _ _ _ h => h) (Or.inl ⟨by rfl, ?_⟩) hHeld ?_ ?_
                  rotate_left
                  ·rintro w' ⟨s0, s1, s2, s3, s4, s5, s6, s7, s8⟩
                   go_simp
                   with_reducible rfl
                  rotate_left
                  ·simp only [Act.put, sx_, s0_, s1_, i64_w, i32_w]
                   rfl
                  refine take_ (i := 7) (N := some 77) (v := ?_) (a' := ?_) #[true, true, true, true, true, true, true, true, true, false, false, false, false] rfl rfl (take_ofW HT_.out HW_.out kr_) (fun _ _ _ h => h) (Or.inl ⟨by rfl, ?_⟩) hHeld ?_ ?_
                  rotate_left
                  ·rintro w' ⟨s0, s1, s2, s3, s4, s5, s6, s7, s8⟩
                   go_simp
                   with_reducible rfl
                  rotate_left
                  ·simp only [Act.put, sx_, s0_, s1_, i64_w, i32_w]
                   rfl
                  refine pure_ (i := 9) (N := some 79) (v := ?_) (a' := ?_) #[true, true, true, true, true, true, true, true, true, true, false, false, false] rfl rfl (any_of HT_.out kr_) (fun _ _ _ h => h) (Or.inl ⟨by rfl, ?_⟩) ?_ ?_
                  rotate_left
                  ·intro w'
                   go_simp
                   with_reducible rfl
                  rotate_left
                  ·simp only [Act.put, sx_, s0_, s1_, i64_w, i32_w]
                   rfl
                  refine pure_ (i := 10) (N := some 80) (v := ?_) (a' := ?_) #[true, true, true, true, true, true, true, true, true, true, true, false, false] rfl rfl (any_of HT_.out kr_) (fun _ _ _ h => h) (Or.inl ⟨by rfl, ?_⟩) ?_ ?_
                  rotate_left
                  ·intro w'
                   go_simp
                   with_reducible rfl
                  rotate_left
                  ·simp only [Act.put, sx_, s0_, s1_, i64_w, i32_w]
                   rfl
                  refine take_ (i := 11) (N := some 81) (v := ?_) (a' := ?_) #[true, true, true, true, true, true, true, true, true, true, true, true, false] rfl rfl (take_ofW HT_.out HW_.out kr_) (fun _ _ _ h => h) (Or.inl ⟨by rfl, ?_⟩) hHeld ?_ ?_
                  rotate_left
                  ·rintro w' ⟨s0, s1, s2, s3, s4, s5, s6, s7, s8⟩
                   go_simp
                   with_reducible rfl
                  rotate_left
                  ·simp only [Act.put, sx_, s0_, s1_, i64_w, i32_w]
                   rfl
                  refine one_ (i := 12) (N := some 82) #[true, true, true, true, true, true, true, true, true, true, true, true, true] rfl rfl (one_of HT_.out kr_) (by decide) (fun K hK => ?_)
                  refine goes_ Tryd.func37 kr_ rfl #[.string ((rd_T49 l0_3 x3_2).f0), .string ((rd_T49 l0_3 x4_4).f0)] (by rfl) rfl rfl rl_ ?_
                  with_reducible refine (tollref05_Same.calls k4 ((rd_T49 l0_3 x3_2).f0) ((rd_T49 l0_3 x4_4).f0) true _ A54.out).mono ?_
                  rintro e w57 ⟨rfl, hb⟩
                  refine ⟨_, rfl, ?_⟩
                  have n0_ := am_ (blk_below (g := gb180) (o := .cells #[.int .i64 a0_0, .string a0_1, .string a0_2, .slice (some ad189) l0_3.length c0_3, .slice A0_4 l0_4.length c0_4] 26 (0, 0)) (blk_ BK180.out) hb)
                  have n1_ := am_ (below_step (bel_ HB.out) hb)
                  clear BK180 HB
                  have BK180 := n0_
                  have HB := n1_
                  clear n0_ n1_
                  (try clear hb)
                  (try clear hb2)
                  (try clear hk)
                  (try clear hi)
                  refine hK.out _ _ ⟨(blk_cell BK180.out 0).trans rfl, (blk_cell BK180.out 1).trans rfl, (blk_cell BK180.out 2).trans rfl, (blk_cell BK180.out 3).trans rfl, (blk_cell BK180.out 4).trans rfl, ((HB.out.cell (World.block_lt_of_cell? w _ hw189_0)).trans hw189_0), ((HB.out.cell (World.block_lt_of_cell? w _ hw189_1)).trans hw189_1), ((HB.out.cell (World.block_lt_of_cell? w _ hw190_0)).trans hw190_0), ((HB.out.cell (World.block_lt_of_cell? w _ hw190_1)).trans hw190_1)⟩ (fun hHeld => ?_)
                  clear hK K
                  refine norm_ (a' := ?_) ?_ ?_
                  rotate_left
                  ·show Act.put _ (some 82) _ = _
                   simp only [Act.put, sx_, s0_, s1_, i64_w, i32_w]
                   rfl
                  refine done_ (done_of HT_.out kr_) ?_
                  try go_wp2
                  go_ret
                  exact ⟨fi_, bel_ HB.out⟩
                 ·replace c55 := Bool.eq_false_iff.mpr c55
                  subst c55
                  have H1 : (tollref06_May.l1 k4 x3_2 (wrap64 (x4_4 + 1)) a0_0 a0_1 a0_2 l0_3 l0_4) = some r := by rw [if_neg (show ¬ (false = true) by decide)] at H; exact H
                  clear H
                  have H := H1
                  clear H1
                  have H' := Aside0.mk H
                  clear H
                  try go_wp2
                  have n0_ := am_ (blk_drew BK180.out)
                  have n1_ := am_ (below_drew1 HB.out)
                  clear BK180 HB
                  have BK180 := n0_
                  have HB := n1_
                  clear n0_ n1_
                  have p189 : 0 ≤ (x3_2 : Int) := of_decide_eq_true as_
                  have q189 : x3_2 < (l0_3.length : Int) := of_decide_eq_true as_
                  obtain ⟨ad189, e189, hx189_0, hx189_1⟩ := at_T49 HR0_3.out x3_2 p189 q189
                  have hw189_1 := hx189_1
                  have hw189_0 := hx189_0
                  cases e189
                  replace hx189_0 := (HB.out.cell (World.block_lt_of_cell? w _ hx189_0)).trans hx189_0
                  replace hx189_1 := (HB.out.cell (World.block_lt_of_cell? w _ hx189_1)).trans hx189_1
                  replace p189 := eq_true p189
                  replace q189 := eq_true q189
                  have p190 : 0 ≤ (x4_4 : Int) := of_decide_eq_true as_
                  have q190 : x4_4 < (l0_3.length : Int) := of_decide_eq_true as_
                  obtain ⟨ad190, e190, hx190_0, hx190_1⟩ := at_T49 HR0_3.out x4_4 p190 q190
                  have hw190_1 := hx190_1
                  have hw190_0 := hx190_0
                  obtain rfl : ad189 = ad190 := (by injection e190)
                  replace hx190_0 := (HB.out.cell (World.block_lt_of_cell? w _ hx190_0)).trans hx190_0
                  replace hx190_1 := (HB.out.cell (World.block_lt_of_cell? w _ hx190_1)).trans hx190_1
                  replace p190 := eq_true p190
                  replace q190 := eq_true q190
                  refine start_ (n := 13) (S := fun w' => w'.cell? ⟨gb180, 0, none⟩ = some (.int .i64 a0_0) ∧ w'.cell? ⟨gb180, 1, none⟩ = some (.string a0_1) ∧ w'.cell? ⟨gb180, 2, none⟩ = some (.string a0_2) ∧ w'.cell? ⟨gb180, 3, none⟩ = some (.slice (some ad189) l0_3.length c0_3) ∧ w'.cell? ⟨gb180, 4, none⟩ = some (.slice A0_4 l0_4.length c0_4) ∧ w'.cell? (ad189.add ((x3_2).toNat * 2)) = some (.string ((rd_T49 l0_3 x3_2).f0)) ∧ w'.cell? ⟨(ad189.add ((x3_2).toNat * 2)).block, (ad189.add ((x3_2).toNat * 2)).off + 1, none⟩ = some (.string ((rd_T49 l0_3 x3_2).f1)) ∧ w'.cell? (ad189.add ((x4_4).toNat * 2)) = some (.string ((rd_T49 l0_3 x4_4).f0)) ∧ w'.cell? ⟨(ad189.add ((x4_4).toNat * 2)).block, (ad189.add ((x4_4).toNat * 2)).off + 1, none⟩ = some (.string ((rd_T49 l0_3 x4_4).f1))) (ds := []) #[false, false, false, false, false, false, false, false, false, false, false, false, false] kr_ rfl rfl ⟨(blk_cell BK180.out 0).trans rfl, (blk_cell BK180.out 1).trans rfl, (blk_cell BK180.out 2).trans rfl, (blk_cell BK180.out 3).trans rfl, (blk_cell BK180.out 4).trans rfl, ((HB.out.cell (World.block_lt_of_cell? w _ hw189_0)).trans hw189_0), ((HB.out.cell (World.block_lt_of_cell? w _ hw189_1)).trans hw189_1), ((HB.out.cell (World.block_lt_of_cell? w _ hw190_0)).trans hw190_0), ((HB.out.cell (World.block_lt_of_cell? w _ hw190_1)).trans hw190_1)⟩ (fun hHeld => ?_); refine with_tabW tollref06_May.tab11 tollref06_May.bits11 (fun HT_ HW_ => ?_)
                  generalize wr.drew = w58 at BK180 HB hx189_0 hx189_1 hx190_0 hx190_1 hHeld ⊢
                  refine pure_ (i := 0) (N := some 70) (v := ?_) (a' := ?_) #[true, false, false, false, false, false, false, false, false, false, false, false, false] rfl rfl (any_of HT_.out kr_) (fun _ _ _ h => h) (Or.inl ⟨by rfl, ?_⟩) ?_ ?_
                  rotate_left
                  ·intro w'
                   go_simp
                   with_reducible rfl
                  rotate_left
                  ·simp only [Act.put, sx_, s0_, s1_, i64_w, i32_w]
                   rfl
                  refine pure_ (i := 2) (N := some 72) (v := ?_) (a' := ?_) #[true, false, true, false, false, false, false, false, false, false, false, false, false] rfl rfl (any_of HT_.out kr_) (fun _ _ _ h => h) (Or.inl ⟨by rfl, ?_⟩) ?_ ?_
                  rotate_left
                  ·intro w'
                   go_simp
                   with_reducible rfl
                  rotate_left
                  ·simp only [Act.put, sx_, s0_, s1_, i64_w, i32_w]
                   rfl
                  refine pure_ (i := 6) (N := some 76) (v := ?_) (a' := ?_) #[true, false, true, false, false, false, true, false, false, false, false, false, false] rfl rfl (any_of HT_.out kr_) (fun _ _ _ h => h) (Or.inl ⟨by rfl, ?_⟩) ?_ ?_
                  rotate_left
                  ·intro w'
                   go_simp
                   with_reducible rfl
                  rotate_left
                  ·simp only [Act.put, sx_, s0_, s1_, i64_w, i32_w]
                   rfl
                  refine pure_ (i := 8) (N := some 78) (v := ?_) (a' := ?_) #[true, false, true, false, false, false, true, false, true, false, false, false, false] rfl rfl (any_of HT_.out kr_) (fun _ _ _ h => h) (Or.inl ⟨by rfl, ?_⟩) ?_ ?_
                  rotate_left
                  ·intro w'
                   go_simp
                   with_reducible rfl
                  rotate_left
                  ·simp only [Act.put, sx_, s0_, s1_, i64_w, i32_w]
                   rfl
                  refine take_ (i := 1) (N := some 71) (v := ?_) (a' := ?_) #[true, true, true, false, false, false, true, false, true, false, false, false, false] rfl rfl (take_ofW HT_.out HW_.out kr_) (fun _ _ _ h => h) (Or.inl ⟨by rfl, ?_⟩) hHeld ?_ ?_
                  rotate_left
                  ·rintro w' ⟨s0, s1, s2, s3, s4, s5, s6, s7, s8⟩
                   go_simp
                   with_reducible rfl
                  rotate_left
                  ·simp only [Act.put, sx_, s0_, s1_, i64_w, i32_w]
                   rfl
                  refine pure_ (i := 3) (N := some 73) (v := ?_) (a' := ?_) #[true, true, true, true, false, false, true, false, true, false, false, false, false] rfl rfl (any_of HT_.out kr_) (fun _ _ _ h => h) (Or.inl ⟨by rfl, ?_⟩) ?_ ?_
                  rotate_left
                  ·intro w'
                   go_simp
                   with_reducible rfl
                  rotate_left
                  ·simp only [Act.put, sx_, s0_, s1_, i64_w, i32_w]
                   rfl
                  refine pure_ (i := 4) (N := some 74) (v := ?_) (a' := ?_) #[true, true, true, true, true, false, true, false, true, false, false, false, false] rfl rfl (any_of HT_.out kr_) (fun _ _ _ h => h) (Or.inl ⟨by rfl, ?_⟩) ?_ ?_
                  rotate_left
                  ·intro w'
                   go_simp
                   with_reducible rfl
                  rotate_left
                  ·simp only [Act.put, sx_, s0_, s1_, i64_w, i32_w]
                   rfl
                  refine take_ (i := 5) (N := some 75) (v := ?_) (a' := ?_) #[true, true, true, true, true, true, true, false, true, false, false, false, false] rfl rfl (take_ofW HT_.out HW_.out kr_) (fun _ _ _ h => h) (Or.inl ⟨by rfl, ?_⟩) hHeld ?_ ?_
                  rotate_left
                  ·rintro w' ⟨s0, s1, s2, s3, s4, s5, s6, s7, s8⟩
                   go_simp
                   with_reducible rfl
                  rotate_left
                  ·simp only [Act.put, sx_, s0_, s1_, i64_w, i32_w]
                   rfl
                  refine take_ (i := 7) (N := some 77) (v := ?_) (a' := ?_) #[true, true, true, true, true, true, true, true, true, false, false, false, false] rfl rfl (take_ofW HT_.out HW_.out kr_) (fun _ _ _ h => h) (Or.inl ⟨by rfl, ?_⟩) hHeld ?_ ?_
                  rotate_left
                  ·rintro w' ⟨s0, s1, s2, s3, s4, s5, s6, s7, s8⟩
                   go_simp
                   with_reducible rfl
                  rotate_left
                  ·simp only [Act.put, sx_, s0_, s1_, i64_w, i32_w]
                   rfl
                  refine pure_ (i := 9) (N := some 79) (v := ?_) (a' := ?_) #[true, true, true, true, true, true, true, true, true, true, false, false, false] rfl rfl (any_of HT_.out kr_) (fun _ _ _ h => h) (Or.inl ⟨by rfl, ?_⟩) ?_ ?_
                  rotate_left
                  ·intro w'
                   go_simp
                   with_reducible rfl
                  rotate_left
                  ·simp only [Act.put, sx_, s0_, s1_, i64_w, i32_w]
                   rfl
                  refine pure_ (i := 10) (N := some 80) (v := ?_) (a' := ?_) #[true, true, true, true, true, true, true, true, true, true, true, false, false] rfl rfl (any_of HT_.out kr_) (fun _ _ _ h => h) (Or.inl ⟨by rfl, ?_⟩) ?_ ?_
                  rotate_left
                  ·intro w'
                   go_simp
                   with_reducible rfl
                  rotate_left
                  ·simp only [Act.put, sx_, s0_, s1_, i64_w, i32_w]
                   rfl
                  refine take_ (i := 11) (N := some 81) (v := ?_) (a' := ?_) #[true, true, true, true, true, true, true, true, true, true, true, true, false] rfl rfl (take_ofW HT_.out HW_.out kr_) (fun _ _ _ h => h) (Or.inl ⟨by rfl, ?_⟩) hHeld ?_ ?_
                  rotate_left
                  ·rintro w' ⟨s0, s1, s2, s3, s4, s5, s6, s7, s8⟩
                   go_simp
                   with_reducible rfl
                  rotate_left
                  ·simp only [Act.put, sx_, s0_, s1_, i64_w, i32_w]
                   rfl
                  refine one_ (i := 12) (N := some 82) #[true, true, true, true, true, true, true, true, true, true, true, true, true] rfl rfl (one_of HT_.out kr_) (by decide) (fun K hK => ?_)
                  refine goes_ Tryd.func37 kr_ rfl #[.string ((rd_T49 l0_3 x3_2).f0), .string ((rd_T49 l0_3 x4_4).f0)] (by rfl) rfl rfl rl_ ?_
                  with_reducible refine (tollref05_Same.calls k4 ((rd_T49 l0_3 x3_2).f0) ((rd_T49 l0_3 x4_4).f0) false _ A54.out).mono ?_
                  rintro e w59 ⟨rfl, hb⟩
                  refine ⟨_, rfl, ?_⟩
                  have n0_ := am_ (blk_below (g := gb180) (o := .cells #[.int .i64 a0_0, .string a0_1, .string a0_2, .slice (some ad189) l0_3.length c0_3, .slice A0_4 l0_4.length c0_4] 26 (0, 0)) (blk_ BK180.out) hb)
                  have n1_ := am_ (below_step (bel_ HB.out) hb)
                  clear BK180 HB
                  have BK180 := n0_
                  have HB := n1_
                  clear n0_ n1_
                  (try clear hb)
                  (try clear hb2)
                  (try clear hk)
                  (try clear hi)
                  refine hK.out _ _ ⟨(blk_cell BK180.out 0).trans rfl, (blk_cell BK180.out 1).trans rfl, (blk_cell BK180.out 2).trans rfl, (blk_cell BK180.out 3).trans rfl, (blk_cell BK180.out 4).trans rfl, ((HB.out.cell (World.block_lt_of_cell? w _ hw189_0)).trans hw189_0), ((HB.out.cell (World.block_lt_of_cell? w _ hw189_1)).trans hw189_1), ((HB.out.cell (World.block_lt_of_cell? w _ hw190_0)).trans hw190_0), ((HB.out.cell (World.block_lt_of_cell? w _ hw190_1)).trans hw190_1)⟩ (fun hHeld => ?_)
                  clear hK K
                  refine norm_ (a' := ?_) ?_ ?_
                  rotate_left
                  ·show Act.put _ (some 82) _ = _
                   simp only [Act.put, sx_, s0_, s1_, i64_w, i32_w]
                   rfl
                  refine done_ (done_of HT_.out kr_) ?_
                  try go_wp2
                  go_roundg k4
                  case measure => have := HJ1.out; have := HK2.out; have := HJ39.out; have := HK4.out; omega
                  case rel => exact ⟨(wrap64 (x4_4 + 1)), sd_, H', ⟨by have := HJ1.out; have := HK2.out; have := HJ39.out; have := HK4.out; omega⟩, ⟨by (with_reducible repeat (first | refine blk_drewN ?_ _ | refine blk_drew ?_ | refine blk_alloc ?_ _)); exact BK180.out⟩, ⟨bel_ HB.out⟩⟩
                ·rw [if_neg c53] at H
                 exact absurd H (by simp)
               ·rw [if_neg c52] at H
                exact absurd H (by simp)
              ·rw [if_neg c51] at H
               exact absurd H (by simp)
             ·rw [if_neg c50] at H
              exact absurd H (by simp)
            ·rw [if_neg c49] at H
             have c49b0 : decide (x4_4 < x3_2) = false := decide_eq_false c49
             clear c49
             have H' := Aside0.mk H
             clear H
             go_wp2
             go_roundg k4
             case measure => have := HJ1.out; have := HK2.out; have := HJ39.out; have := HK4.out; omega
             case rel => exact ⟨(wrap64 (x3_2 + 1)), sd_, H', ⟨by have := HJ1.out; have := HK2.out; have := HJ39.out; have := HK4.out; omega⟩, ⟨by (with_reducible repeat (first | refine blk_drewN ?_ _ | refine blk_drew ?_ | refine blk_alloc ?_ _)); exact BK180.out⟩, ⟨bel_ HB.out⟩⟩
      ·rw [if_neg c39] at H
       have c39b0 : decide (x3_2 < (l0_3.length : Int)) = false := decide_eq_false c39
       clear c39
       have H' := Aside0.mk H
       clear H
       have hcz60_0 : wr.cell? ⟨gb180, 0, none⟩ = some (.int .i64 a0_0) := (blk_cell BK180.out 0).trans rfl
       have hcz60_1 : wr.cell? ⟨gb180, 1, none⟩ = some (.string a0_1) := (blk_cell BK180.out 1).trans rfl
       have hcz60_2 : wr.cell? ⟨gb180, 2, none⟩ = some (.string a0_2) := (blk_cell BK180.out 2).trans rfl
       have hcz60_3 : wr.cell? ⟨gb180, 3, none⟩ = some (.slice A0_3 l0_3.length c0_3) := (blk_cell BK180.out 3).trans rfl
       have hcz60_4 : wr.cell? ⟨gb180, 4, none⟩ = some (.slice A0_4 l0_4.length c0_4) := (blk_cell BK180.out 4).trans rfl
       have hfz60_0 := blk_frozen BK180.out 0
       have hfz60_1 := blk_frozen BK180.out 1
       have hfz60_2 := blk_frozen BK180.out 2
       have hfz60_3 := blk_frozen BK180.out 3
       have hfz60_4 := blk_frozen BK180.out 4
       go_wp2
       go_loopg [5] k2 (fun kq v5 w' => ∃ (x5_3 : Int), v5 = .int .i64 x5_3 ∧ Aside0 (tollref06_May.l2 kq x5_3 a0_0 a0_1 a0_2 l0_3 l0_4 = some r) ∧ Aside0 (kq ≤ k2) ∧ Aside0 (w'.heap[gb180]? = some (.cells #[.int .i64 a0_0, .string a0_1, .string a0_2, (.slice A0_3 l0_3.length c0_3), (.slice A0_4 l0_4.length c0_4)] 26 (0, 0))) ∧ Aside0 (Below w.heap.size w w'))
       case atStart => exact ⟨(0), sd_, H', ⟨Nat.le_refl _⟩, ⟨by (with_reducible repeat (first | refine blk_drewN ?_ _ | refine blk_drew ?_ | refine blk_alloc ?_ _)); exact BK180.out⟩, ⟨bel_ HB.out⟩⟩
       case round =>
        clear H'
        try clear p1
        try clear q1
        try clear hx1
        try clear c2
        try clear p2
        try clear c3
        try clear c4
        try clear c5
        try clear p6
        try clear p18
        try clear q18
        try clear hx18
        try clear p19
        try clear q19
        try clear hx19
        try clear c21
        try clear c21b0
        try clear c21b1
        try clear c25
        try clear c25b0
        try clear c25b1
        try clear c33
        try clear c35
        try clear c37
        try clear c38
        try clear c39
        try clear c39b0
        try clear c42
        try clear c42b0
        try clear c42b1
        try clear c42b2
        try clear c44
        try clear c48
        try clear c49
        try clear c49b0
        try clear c50
        try clear c50b0
        try clear c51
        try clear c51b0
        try clear c52
        try clear c52b0
        try clear c53
        try clear c53b0
        try clear c55
        try clear hcz10_0
        try clear hcz10_1
        try clear hcz10_2
        try clear hcz10_3
        try clear hcz10_4
        try clear hcz12_0
        try clear hcz12_1
        try clear hcz12_2
        try clear hcz12_3
        try clear hcz12_4
        try clear hcz14_0
        try clear hcz14_1
        try clear hcz14_2
        try clear hcz14_3
        try clear hcz14_4
        try clear hcz16_0
        try clear hcz16_1
        try clear hcz16_2
        try clear hcz16_3
        try clear hcz16_4
        try clear hcz18_0
        try clear hcz18_1
        try clear hcz18_2
        try clear hcz18_3
        try clear hcz18_4
        try clear hcz22_0
        try clear hcz22_1
        try clear hcz22_2
        try clear hcz22_3
        try clear hcz22_4
        try clear hcz24_0
        try clear hcz24_1
        try clear hcz24_2
        try clear hcz24_3
        try clear hcz24_4
        try clear hcz26_0
        try clear hcz26_1
        try clear hcz26_2
        try clear hcz26_3
        try clear hcz26_4
        try clear hcz28_0
        try clear hcz28_1
        try clear hcz28_2
        try clear hcz28_3
        try clear hcz28_4
        try clear hcz30_0
        try clear hcz30_1
        try clear hcz30_2
        try clear hcz30_3
        try clear hcz30_4
        try clear hcz32_0
        try clear hcz32_1
        try clear hcz32_2
        try clear hcz32_3
        try clear hcz32_4
        try clear hcz33_0
        try clear hcz33_1
        try clear hcz33_2
        try clear hcz33_3
        try clear hcz33_4
        try clear hcz35_0
        try clear hcz35_1
        try clear hcz35_2
        try clear hcz35_3
        try clear hcz35_4
        try clear hcz36_0
        try clear hcz36_1
        try clear hcz36_2
        try clear hcz36_3
        try clear hcz36_4
        try clear hcz41_0
        try clear hcz41_1
        try clear hcz41_2
        try clear hcz41_3
        try clear hcz41_4
        try clear hcz46_0
        try clear hcz46_1
        try clear hcz46_2
        try clear hcz46_3
        try clear hcz46_4
        try clear hcz47_0
        try clear hcz47_1
        try clear hcz47_2
        try clear hcz47_3
        try clear hcz47_4
        try clear hcz60_0
        try clear hcz60_1
        try clear hcz60_2
        try clear hcz60_3
        try clear hcz60_4
        try clear hcz8_0
        try clear hcz8_1
        try clear hcz8_2
        try clear hcz8_3
        try clear hcz8_4
        try clear hfz10_0
        try clear hfz10_1
        try clear hfz10_2
        try clear hfz10_3
        try clear hfz10_4
        try clear hfz12_0
        try clear hfz12_1
        try clear hfz12_2
        try clear hfz12_3
        try clear hfz12_4
        try clear hfz14_0
        try clear hfz14_1
        try clear hfz14_2
        try clear hfz14_3
        try clear hfz14_4
        try clear hfz16_0
        try clear hfz16_1
        try clear hfz16_2
        try clear hfz16_3
        try clear hfz16_4
        try clear hfz18_0
        try clear hfz18_1
        try clear hfz18_2
        try clear hfz18_3
        try clear hfz18_4
        try clear hfz22_0
        try clear hfz22_1
        try clear hfz22_2
        try clear hfz22_3
        try clear hfz22_4
        try clear hfz24_0
        try clear hfz24_1
        try clear hfz24_2
        try clear hfz24_3
        try clear hfz24_4
        try clear hfz26_0
        try clear hfz26_1
        try clear hfz26_2
        try clear hfz26_3
        try clear hfz26_4
        try clear hfz28_0
        try clear hfz28_1
        try clear hfz28_2
        try clear hfz28_3
        try clear hfz28_4
        try clear hfz30_0
        try clear hfz30_1
        try clear hfz30_2
        try clear hfz30_3
        try clear hfz30_4
        try clear hfz32_0
        try clear hfz32_1
        try clear hfz32_2
        try clear hfz32_3
        try clear hfz32_4
        try clear hfz33_0
        try clear hfz33_1
        try clear hfz33_2
        try clear hfz33_3
        try clear hfz33_4
        try clear hfz35_0
        try clear hfz35_1
        try clear hfz35_2
        try clear hfz35_3
        try clear hfz35_4
        try clear hfz36_0
        try clear hfz36_1
        try clear hfz36_2
        try clear hfz36_3
        try clear hfz36_4
        try clear hfz41_0
        try clear hfz41_1
        try clear hfz41_2
        try clear hfz41_3
        try clear hfz41_4
        try clear hfz46_0
        try clear hfz46_1
        try clear hfz46_2
        try clear hfz46_3
        try clear hfz46_4
        try clear hfz47_0
        try clear hfz47_1
        try clear hfz47_2
        try clear hfz47_3
        try clear hfz47_4
        try clear hfz60_0
        try clear hfz60_1
        try clear hfz60_2
        try clear hfz60_3
        try clear hfz60_4
        try clear hfz8_0
        try clear hfz8_1
        try clear hfz8_2
        try clear hfz8_3
        try clear hfz8_4
        try clear hx185_0
        try clear hx185_1
        try clear hx187_0
        try clear hx187_1
        try clear hx189_0
        try clear hx189_1
        try clear hx190_0
        try clear hx190_1
        try clear p1
        try clear p18
        try clear p185
        try clear p187
        try clear p189
        try clear p190
        try clear p2
        try clear q1
        try clear q18
        try clear q185
        try clear q187
        try clear q189
        try clear q190
        obtain ⟨x5_3, rfl, HA, HK3, BK180, HB⟩ := hrel
        cases gk with
        | zero => exact absurd HA.out (by simp [tollref06_May.l2])
        | succ k3 =>
         have H := HA.out
         clear HA
         simp only [tollref06_May.l2] at H
         by_cases c61 : x5_3 < (l0_4.length : Int)
         ·rw [if_pos c61] at H
          have c61b0 : decide (x5_3 < (l0_4.length : Int)) = true := decide_eq_true c61
          clear c61
          have H' := Aside0.mk H
          clear H
          have hcz62_0 : wr.cell? ⟨gb180, 0, none⟩ = some (.int .i64 a0_0) := (blk_cell BK180.out 0).trans rfl
          have hcz62_1 : wr.cell? ⟨gb180, 1, none⟩ = some (.string a0_1) := (blk_cell BK180.out 1).trans rfl
          have hcz62_2 : wr.cell? ⟨gb180, 2, none⟩ = some (.string a0_2) := (blk_cell BK180.out 2).trans rfl
          have hcz62_3 : wr.cell? ⟨gb180, 3, none⟩ = some (.slice A0_3 l0_3.length c0_3) := (blk_cell BK180.out 3).trans rfl
          have hcz62_4 : wr.cell? ⟨gb180, 4, none⟩ = some (.slice A0_4 l0_4.length c0_4) := (blk_cell BK180.out 4).trans rfl
          have hfz62_0 := blk_frozen BK180.out 0
          have hfz62_1 := blk_frozen BK180.out 1
          have hfz62_2 := blk_frozen BK180.out 2
          have hfz62_3 := blk_frozen BK180.out 3
          have hfz62_4 := blk_frozen BK180.out 4
          go_wp2
          go_loopg [6] k3 (fun kq v6 w' => ∃ (x6_4 : Int), v6 = .int .i64 x6_4 ∧ Aside0 (tollref06_May.l3 kq x5_3 x6_4 a0_0 a0_1 a0_2 l0_3 l0_4 = some r) ∧ Aside0 (kq ≤ k3) ∧ Aside0 (w'.heap[gb180]? = some (.cells #[.int .i64 a0_0, .string a0_1, .string a0_2, (.slice A0_3 l0_3.length c0_3), (.slice A0_4 l0_4.length c0_4)] 26 (0, 0))) ∧ Aside0 (Below w.heap.size w w'))
          case atStart => exact ⟨(0), sd_, H', ⟨Nat.le_refl _⟩, ⟨by (with_reducible repeat (first | refine blk_drewN ?_ _ | refine blk_drew ?_ | refine blk_alloc ?_ _)); exact BK180.out⟩, ⟨bel_ HB.out⟩⟩
          case round =>
           clear H'
           try clear p1
           try clear q1
           try clear hx1
           try clear c2
           try clear p2
           try clear c3
           try clear c4
           try clear c5
           try clear c6
           try clear p6
           try clear p18
           try clear q18
           try clear hx18
           try clear p19
           try clear q19
           try clear hx19
           try clear c21
           try clear c21b0
           try clear c21b1
           try clear c25
           try clear c25b0
           try clear c25b1
           try clear c33
           try clear c35
           try clear c37
           try clear c38
           try clear c39
           try clear c39b0
           try clear c42
           try clear c42b0
           try clear c42b1
           try clear c42b2
           try clear c44
           try clear c48
           try clear c49
           try clear c49b0
           try clear c50
           try clear c50b0
           try clear c51
           try clear c51b0
           try clear c52
           try clear c52b0
           try clear c53
           try clear c53b0
           try clear c55
           try clear c61
           try clear c61b0
           try clear hcz10_0
           try clear hcz10_1
           try clear hcz10_2
           try clear hcz10_3
           try clear hcz10_4
           try clear hcz12_0
           try clear hcz12_1
           try clear hcz12_2
           try clear hcz12_3
           try clear hcz12_4
           try clear hcz14_0
           try clear hcz14_1
           try clear hcz14_2
           try clear hcz14_3
           try clear hcz14_4
           try clear hcz16_0
           try clear hcz16_1
           try clear hcz16_2
           try clear hcz16_3
           try clear hcz16_4
           try clear hcz18_0
           try clear hcz18_1
           try clear hcz18_2
           try clear hcz18_3
           try clear hcz18_4
           try clear hcz22_0
           try clear hcz22_1
           try clear hcz22_2
           try clear hcz22_3
           try clear hcz22_4
           try clear hcz24_0
           try clear hcz24_1
           try clear hcz24_2
           try clear hcz24_3
           try clear hcz24_4
           try clear hcz26_0
           try clear hcz26_1
           try clear hcz26_2
           try clear hcz26_3
           try clear hcz26_4
           try clear hcz28_0
           try clear hcz28_1
           try clear hcz28_2
           try clear hcz28_3
           try clear hcz28_4
           try clear hcz30_0
           try clear hcz30_1
           try clear hcz30_2
           try clear hcz30_3
           try clear hcz30_4
           try clear hcz32_0
           try clear hcz32_1
           try clear hcz32_2
           try clear hcz32_3
           try clear hcz32_4
           try clear hcz33_0
           try clear hcz33_1
           try clear hcz33_2
           try clear hcz33_3
           try clear hcz33_4
           try clear hcz35_0
           try clear hcz35_1
           try clear hcz35_2
           try clear hcz35_3
           try clear hcz35_4
           try clear hcz36_0
           try clear hcz36_1
           try clear hcz36_2
           try clear hcz36_3
           try clear hcz36_4
           try clear hcz41_0
           try clear hcz41_1
           try clear hcz41_2
           try clear hcz41_3
           try clear hcz41_4
           try clear hcz46_0
           try clear hcz46_1
           try clear hcz46_2
           try clear hcz46_3
           try clear hcz46_4
           try clear hcz47_0
           try clear hcz47_1
           try clear hcz47_2
           try clear hcz47_3
           try clear hcz47_4
           try clear hcz60_0
           try clear hcz60_1
           try clear hcz60_2
           try clear hcz60_3
           try clear hcz60_4
           try clear hcz62_0
           try clear hcz62_1
           try clear hcz62_2
           try clear hcz62_3
           try clear hcz62_4
           try clear hcz8_0
           try clear hcz8_1
           try clear hcz8_2
           try clear hcz8_3
           try clear hcz8_4
           try clear hfz10_0
           try clear hfz10_1
           try clear hfz10_2
           try clear hfz10_3
           try clear hfz10_4
           try clear hfz12_0
           try clear hfz12_1
           try clear hfz12_2
           try clear hfz12_3
           try clear hfz12_4
           try clear hfz14_0
           try clear hfz14_1
           try clear hfz14_2
           try clear hfz14_3
           try clear hfz14_4
           try clear hfz16_0
           try clear hfz16_1
           try clear hfz16_2
           try clear hfz16_3
           try clear hfz16_4
           try clear hfz18_0
           try clear hfz18_1
           try clear hfz18_2
           try clear hfz18_3
           try clear hfz18_4
           try clear hfz22_0
           try clear hfz22_1
           try clear hfz22_2
           try clear hfz22_3
           try clear hfz22_4
           try clear hfz24_0
           try clear hfz24_1
           try clear hfz24_2
           try clear hfz24_3
           try clear hfz24_4
           try clear hfz26_0
           try clear hfz26_1
           try clear hfz26_2
           try clear hfz26_3
           try clear hfz26_4
           try clear hfz28_0
           try clear hfz28_1
           try clear hfz28_2
           try clear hfz28_3
           try clear hfz28_4
           try clear hfz30_0
           try clear hfz30_1
           try clear hfz30_2
           try clear hfz30_3
           try clear hfz30_4
           try clear hfz32_0
           try clear hfz32_1
           try clear hfz32_2
           try clear hfz32_3
           try clear hfz32_4
           try clear hfz33_0
           try clear hfz33_1
           try clear hfz33_2
           try clear hfz33_3
           try clear hfz33_4
           try clear hfz35_0
           try clear hfz35_1
           try clear hfz35_2
           try clear hfz35_3
           try clear hfz35_4
           try clear hfz36_0
           try clear hfz36_1
           try clear hfz36_2
           try clear hfz36_3
           try clear hfz36_4
           try clear hfz41_0
           try clear hfz41_1
           try clear hfz41_2
           try clear hfz41_3
           try clear hfz41_4
           try clear hfz46_0
           try clear hfz46_1
           try clear hfz46_2
           try clear hfz46_3
           try clear hfz46_4
           try clear hfz47_0
           try clear hfz47_1
           try clear hfz47_2
           try clear hfz47_3
           try clear hfz47_4
           try clear hfz60_0
           try clear hfz60_1
           try clear hfz60_2
           try clear hfz60_3
           try clear hfz60_4
           try clear hfz62_0
           try clear hfz62_1
           try clear hfz62_2
           try clear hfz62_3
           try clear hfz62_4
           try clear hfz8_0
           try clear hfz8_1
           try clear hfz8_2
           try clear hfz8_3
           try clear hfz8_4
           try clear hx185_0
           try clear hx185_1
           try clear hx187_0
           try clear hx187_1
           try clear hx189_0
           try clear hx189_1
           try clear hx190_0
           try clear hx190_1
           try clear p1
           try clear p18
           try clear p185
           try clear p187
           try clear p189
           try clear p19
           try clear p190
           try clear p2
           try clear p6
           try clear q1
           try clear q18
           try clear q185
           try clear q187
           try clear q189
           try clear q19
           try clear q190
           obtain ⟨x6_4, rfl, HA, HK4, BK180, HB⟩ := hrel
           cases gk with
           | zero => exact absurd HA.out (by simp [tollref06_May.l3])
           | succ k4 =>
            have H := HA.out
            clear HA
            simp only [tollref06_May.l3] at H
            by_cases c63 : x6_4 < x5_3
            ·rw [if_pos c63] at H
             have c63b0 : decide (x6_4 < x5_3) = true := decide_eq_true c63
             clear c63
             by_cases c64 : 0 ≤ x5_3
             ·rw [if_pos c64] at H
              have c64b0 : decide (0 ≤ x5_3) = true := decide_eq_true c64
              clear c64
              by_cases c65 : x5_3 < (l0_4.length : Int)
              ·rw [if_pos c65] at H
               have c65b0 : decide (x5_3 < (l0_4.length : Int)) = true := decide_eq_true c65
               clear c65
               by_cases c66 : 0 ≤ x6_4
               ·rw [if_pos c66] at H
                have c66b0 : decide (0 ≤ x6_4) = true := decide_eq_true c66
                clear c66
                by_cases c67 : x6_4 < (l0_4.length : Int)
                ·rw [if_pos c67] at H
                 have c67b0 : decide (x6_4 < (l0_4.length : Int)) = true := decide_eq_true c67
                 clear c67
                 by_cases c68 : ((rd_T49 l0_4 x5_3).f0).toList = ((rd_T49 l0_4 x6_4).f0).toList
                 ·rw [if_pos c68] at H
                  have c68b0 : (((rd_T49 l0_4 x5_3).f0).toList == ((rd_T49 l0_4 x6_4).f0).toList) = true := beq_iff_eq.mpr c68
                  have c68b1 : (((rd_T49 l0_4 x5_3).f0).toList != ((rd_T49 l0_4 x6_4).f0).toList) = false := bne_eq_false_iff_eq.mpr c68
                  clear c68
                  obtain rfl := Option.some.inj H
                  try go_wp2
                  have n0_ := am_ (blk_drew BK180.out)
                  have n1_ := am_ (below_drew1 HB.out)
                  clear BK180 HB
                  have BK180 := n0_
                  have HB := n1_
                  clear n0_ n1_
                  have p192 : 0 ≤ (x5_3 : Int) := of_decide_eq_true as_
                  have q192 : x5_3 < (l0_4.length : Int) := of_decide_eq_true as_
                  obtain ⟨ad192, e192, hx192_0, hx192_1⟩ := at_T49 HR0_4.out x5_3 p192 q192
                  have hw192_1 := hx192_1
                  have hw192_0 := hx192_0
                  cases e192
                  replace hx192_0 := (HB.out.cell (World.block_lt_of_cell? w _ hx192_0)).trans hx192_0
                  replace hx192_1 := (HB.out.cell (World.block_lt_of_cell? w _ hx192_1)).trans hx192_1
                  replace p192 := eq_true p192
                  replace q192 := eq_true q192
                  have p193 : 0 ≤ (x6_4 : Int) := of_decide_eq_true as_
                  have q193 : x6_4 < (l0_4.length : Int) := of_decide_eq_true as_
                  obtain ⟨ad193, e193, hx193_0, hx193_1⟩ := at_T49 HR0_4.out x6_4 p193 q193
                  have hw193_1 := hx193_1
                  have hw193_0 := hx193_0
                  obtain rfl : ad192 = ad193 := (by injection e193)
                  replace hx193_0 := (HB.out.cell (World.block_lt_of_cell? w _ hx193_0)).trans hx193_0
                  replace hx193_1 := (HB.out.cell (World.block_lt_of_cell? w _ hx193_1)).trans hx193_1
                  replace p193 := eq_true p193
                  replace q193 := eq_true q193
                  refine start_ (n := 13) (S := fun w' => w'.cell? ⟨gb180, 0, none⟩ = some (.int .i64 a0_0) ∧ w'.cell? ⟨gb180, 1, none⟩ = some (.string a0_1) ∧ w'.cell? ⟨gb180, 2, none⟩ = some (.string a0_2) ∧ w'.cell? ⟨gb180, 3, none⟩ = some (.slice A0_3 l0_3.length c0_3) ∧ w'.cell? ⟨gb180, 4, none⟩ = some (.slice (some ad192) l0_4.length c0_4) ∧ w'.cell? (ad192.add ((x5_3).toNat * 2)) = some (.string ((rd_T49 l0_4 x5_3).f0)) ∧ w'.cell? ⟨(ad192.add ((x5_3).toNat * 2)).block, (ad192.add ((x5_3).toNat * 2)).off + 1, none⟩ = some (.string ((rd_T49 l0_4 x5_3).f1)) ∧ w'.cell? (ad192.add ((x6_4).toNat * 2)) = some (.string ((rd_T49 l0_4 x6_4).f0)) ∧ w'.cell? ⟨(ad192.add ((x6_4).toNat * 2)).block, (ad192.add ((x6_4).toNat * 2)).off + 1, none⟩ = some (.string ((rd_T49 l0_4 x6_4).f1))) (ds := []) #[false, false, false, false, false, false, false, false, false, false, false, false, false] kr_ rfl rfl ⟨(blk_cell BK180.out 0).trans rfl, (blk_cell BK180.out 1).trans rfl, (blk_cell BK180.out 2).trans rfl, (blk_cell BK180.out 3).trans rfl, (blk_cell BK180.out 4).trans rfl, ((HB.out.cell (World.block_lt_of_cell? w _ hw192_0)).trans hw192_0), ((HB.out.cell (World.block_lt_of_cell? w _ hw192_1)).trans hw192_1), ((HB.out.cell (World.block_lt_of_cell? w _ hw193_0)).trans hw193_0), ((HB.out.cell (World.block_lt_of_cell? w _ hw193_1)).trans hw193_1)⟩ (fun hHeld => ?_); refine with_tabW tollref06_May.tab19 tollref06_May.bits19 (fun HT_ HW_ => ?_)
                  generalize wr.drew = w69 at BK180 HB hx192_0 hx192_1 hx193_0 hx193_1 hHeld ⊢
                  refine pure_ (i := 0) (N := some 95) (v := ?_) (a' := ?_) #[true, false, false, false, false, false, false, false, false, false, false, false, false] rfl rfl (any_of HT_.out kr_) (fun _ _ _ h => h) (Or.inl ⟨by rfl, ?_⟩) ?_ ?_
                  rotate_left
                  ·intro w'
                   go_simp
                   with_reducible rfl
                  rotate_left
                  ·simp only [Act.put, sx_, s0_, s1_, i64_w, i32_w]
                   rfl
                  refine pure_ (i := 2) (N := some 97) (v := ?_) (a' := ?_) #[true, false, true, false, false, false, false, false, false, false, false, false, false] rfl rfl (any_of HT_.out kr_) (fun _ _ _ h => h) (Or.inl ⟨by rfl, ?_⟩) ?_ ?_
                  rotate_left
                  ·intro w'
                   go_simp
                   with_reducible rfl
                  rotate_left
                  ·simp only [Act.put, sx_, s0_, s1_, i64_w, i32_w]
                   rfl
                  refine pure_ (i := 6) (N := some 101) (v := ?_) (a' := ?_) #[true, false, true, false, false, false, true, false, false, false, false, false, false] rfl rfl (any_of HT_.out kr_) (fun _ _ _ h => h) (Or.inl ⟨by rfl, ?_⟩) ?_ ?_
                  rotate_left
                  ·intro w'
                   go_simp
                   with_reducible rfl
                  rotate_left
                  ·simp only [Act.put, sx_, s0_, s1_, i64_w, i32_w]
                   rfl
                  refine pure_ (i := 8) (N := some 103) (v := ?_) (a' := ?_) #[true, false, true, false, false, false, true, false, true, false, false, false, false] rfl rfl (any_of HT_.out kr_) (fun _ _ _ h => h) (Or.inl ⟨by rfl, ?_⟩) ?_ ?_
                  rotate_left
                  ·intro w'
                   go_simp
                   with_reducible rfl
                  rotate_left
                  ·simp only [Act.put, sx_, s0_, s1_, i64_w, i32_w]
                   rfl
                  refine take_ (i := 1) (N := some 96) (v := ?_) (a' := ?_) #[true, true, true, false, false, false, true, false, true, false, false, false, false] rfl rfl (take_ofW HT_.out HW_.out kr_) (fun _ _ _ h => h) (Or.inl ⟨by rfl, ?_⟩) hHeld ?_ ?_
                  rotate_left
                  ·rintro w' ⟨s0, s1, s2, s3, s4, s5, s6, s7, s8⟩
                   go_simp
                   with_reducible rfl
                  rotate_left
                  ·simp only [Act.put, sx_, s0_, s1_, i64_w, i32_w]
                   rfl
                  refine pure_ (i := 3) (N := some 98) (v := ?_) (a' := ?_) #[true, true, true, true, false, false, true, false, true, false, false, false, false] rfl rfl (any_of HT_.out kr_) (fun _ _ _ h => h) (Or.inl ⟨by rfl, ?_⟩) ?_ ?_
                  rotate_left
                  ·intro w'
                   go_simp
                   with_reducible rfl
                  rotate_left
                  ·simp only [Act.put, sx_, s0_, s1_, i64_w, i32_w]
                   rfl
                  refine pure_ (i := 4) (N := some 99) (v := ?_) (a' := ?_) #[true, true, true, true, true, false, true, false, true, false, false, false, false] rfl rfl (any_of HT_.out kr_) (fun _ _ _ h => h) (Or.inl ⟨by rfl, ?_⟩) ?_ ?_
                  rotate_left
                  ·intro w'
                   go_simp
                   with_reducible rfl
                  rotate_left
                  ·simp only [Act.put, sx_, s0_, s1_, i64_w, i32_w]
                   rfl
                  refine take_ (i := 5) (N := some 100) (v := ?_) (a' := ?_) #[true, true, true, true, true, true, true, false, true, false, false, false, false] rfl rfl (take_ofW HT_.out HW_.out kr_) (fun _ _ _ h => h) (Or.inl ⟨by rfl, ?_⟩) hHeld ?_ ?_
                  rotate_left
                  ·rintro w' ⟨s0, s1, s2, s3, s4, s5, s6, s7, s8⟩
                   go_simp
                   with_reducible rfl
                  rotate_left
                  ·simp only [Act.put, sx_, s0_, s1_, i64_w, i32_w]
                   rfl
                  refine take_ (i := 7) (N := some 102) (v := ?_) (a' := ?_) #[true, true, true, true, true, true, true, true, true, false, false, false, false] rfl rfl (take_ofW HT_.out HW_.out kr_) (fun _ _ _ h => h) (Or.inl ⟨by rfl, ?_⟩) hHeld ?_ ?_
                  rotate_left
                  ·rintro w' ⟨s0, s1, s2, s3, s4, s5, s6, s7, s8⟩
                   go_simp
                   with_reducible rfl
                  rotate_left
                  ·simp only [Act.put, sx_, s0_, s1_, i64_w, i32_w]
                   rfl
                  refine pure_ (i := 9) (N := some 104) (v := ?_) (a' := ?_) #[true, true, true, true, true, true, true, true, true, true, false, false, false] rfl rfl (any_of HT_.out kr_) (fun _ _ _ h => h) (Or.inl ⟨by rfl, ?_⟩) ?_ ?_
                  rotate_left
                  ·intro w'
                   go_simp
                   with_reducible rfl
                  rotate_left
                  ·simp only [Act.put, sx_, s0_, s1_, i64_w, i32_w]
                   rfl
                  refine pure_ (i := 10) (N := some 105) (v := ?_) (a' := ?_) #[true, true, true, true, true, true, true, true, true, true, true, false, false] rfl rfl (any_of HT_.out kr_) (fun _ _ _ h => h) (Or.inl ⟨by rfl, ?_⟩) ?_ ?_
                  rotate_left
                  ·intro w'
                   go_simp
                   with_reducible rfl
                  rotate_left
                  ·simp only [Act.put, sx_, s0_, s1_, i64_w, i32_w]
                   rfl
                  refine take_ (i := 11) (N := some 106) (v := ?_) (a' := ?_) #[true, true, true, true, true, true, true, true, true, true, true, true, false] rfl rfl (take_ofW HT_.out HW_.out kr_) (fun _ _ _ h => h) (Or.inl ⟨by rfl, ?_⟩) hHeld ?_ ?_
                  rotate_left
                  ·rintro w' ⟨s0, s1, s2, s3, s4, s5, s6, s7, s8⟩
                   go_simp
                   with_reducible rfl
                  rotate_left
                  ·simp only [Act.put, sx_, s0_, s1_, i64_w, i32_w]
                   rfl
                  refine pure_ (i := 12) (N := some 107) (v := ?_) (a' := ?_) #[true, true, true, true, true, true, true, true, true, true, true, true, true] rfl rfl (any_of HT_.out kr_) (fun _ _ _ h => h) (Or.inl ⟨by rfl, ?_⟩) ?_ ?_
                  rotate_left
                  ·intro w'
                   go_simp
                   with_reducible rfl
                  rotate_left
                  ·simp only [Act.put, sx_, s0_, s1_, i64_w, i32_w]
                   rfl
                  refine done_ (done_of HT_.out kr_) ?_
                  try go_wp2
                  go_ret
                  exact ⟨fi_, bel_ HB.out⟩
                 ·rw [if_neg c68] at H
                  have c68b0 : (((rd_T49 l0_4 x5_3).f0).toList == ((rd_T49 l0_4 x6_4).f0).toList) = false := beq_eq_false_iff_ne.mpr c68
                  have c68b1 : (((rd_T49 l0_4 x5_3).f0).toList != ((rd_T49 l0_4 x6_4).f0).toList) = true := bne_iff_ne.mpr c68
                  have H' := Aside0.mk H
                  clear H
                  try go_wp2
                  have n0_ := am_ (blk_drew BK180.out)
                  have n1_ := am_ (below_drew1 HB.out)
                  clear BK180 HB
                  have BK180 := n0_
                  have HB := n1_
                  clear n0_ n1_
                  have p192 : 0 ≤ (x5_3 : Int) := of_decide_eq_true as_
                  have q192 : x5_3 < (l0_4.length : Int) := of_decide_eq_true as_
                  obtain ⟨ad192, e192, hx192_0, hx192_1⟩ := at_T49 HR0_4.out x5_3 p192 q192
                  have hw192_1 := hx192_1
                  have hw192_0 := hx192_0
                  cases e192
                  replace hx192_0 := (HB.out.cell (World.block_lt_of_cell? w _ hx192_0)).trans hx192_0
                  replace hx192_1 := (HB.out.cell (World.block_lt_of_cell? w _ hx192_1)).trans hx192_1
                  replace p192 := eq_true p192
                  replace q192 := eq_true q192
                  have p193 : 0 ≤ (x6_4 : Int) := of_decide_eq_true as_
                  have q193 : x6_4 < (l0_4.length : Int) := of_decide_eq_true as_
                  obtain ⟨ad193, e193, hx193_0, hx193_1⟩ := at_T49 HR0_4.out x6_4 p193 q193
                  have hw193_1 := hx193_1
                  have hw193_0 := hx193_0
                  obtain rfl : ad192 = ad193 := (by injection e193)
                  replace hx193_0 := (HB.out.cell (World.block_lt_of_cell? w _ hx193_0)).trans hx193_0
                  replace hx193_1 := (HB.out.cell (World.block_lt_of_cell? w _ hx193_1)).trans hx193_1
                  replace p193 := eq_true p193
                  replace q193 := eq_true q193
                  refine start_ (n := 13) (S := fun w' => w'.cell? ⟨gb180, 0, none⟩ = some (.int .i64 a0_0) ∧ w'.cell? ⟨gb180, 1, none⟩ = some (.string a0_1) ∧ w'.cell? ⟨gb180, 2, none⟩ = some (.string a0_2) ∧ w'.cell? ⟨gb180, 3, none⟩ = some (.slice A0_3 l0_3.length c0_3) ∧ w'.cell? ⟨gb180, 4, none⟩ = some (.slice (some ad192) l0_4.length c0_4) ∧ w'.cell? (ad192.add ((x5_3).toNat * 2)) = some (.string ((rd_T49 l0_4 x5_3).f0)) ∧ w'.cell? ⟨(ad192.add ((x5_3).toNat * 2)).block, (ad192.add ((x5_3).toNat * 2)).off + 1, none⟩ = some (.string ((rd_T49 l0_4 x5_3).f1)) ∧ w'.cell? (ad192.add ((x6_4).toNat * 2)) = some (.string ((rd_T49 l0_4 x6_4).f0)) ∧ w'.cell? ⟨(ad192.add ((x6_4).toNat * 2)).block, (ad192.add ((x6_4).toNat * 2)).off + 1, none⟩ = some (.string ((rd_T49 l0_4 x6_4).f1))) (ds := []) #[false, false, false, false, false, false, false, false, false, false, false, false, false] kr_ rfl rfl ⟨(blk_cell BK180.out 0).trans rfl, (blk_cell BK180.out 1).trans rfl, (blk_cell BK180.out 2).trans rfl, (blk_cell BK180.out 3).trans rfl, (blk_cell BK180.out 4).trans rfl, ((HB.out.cell (World.block_lt_of_cell? w _ hw192_0)).trans hw192_0), ((HB.out.cell (World.block_lt_of_cell? w _ hw192_1)).trans hw192_1), ((HB.out.cell (World.block_lt_of_cell? w _ hw193_0)).trans hw193_0), ((HB.out.cell (World.block_lt_of_cell? w _ hw193_1)).trans hw193_1)⟩ (fun hHeld => ?_); refine with_tabW tollref06_May.tab19 tollref06_May.bits19 (fun HT_ HW_ => ?_)
                  generalize wr.drew = w70 at BK180 HB hx192_0 hx192_1 hx193_0 hx193_1 hHeld ⊢
                  refine pure_ (i := 0) (N := some 95) (v := ?_) (a' := ?_) #[true, false, false, false, false, false, false, false, false, false, false, false, false] rfl rfl (any_of HT_.out kr_) (fun _ _ _ h => h) (Or.inl ⟨by rfl, ?_⟩) ?_ ?_
                  rotate_left
                  ·intro w'
                   go_simp
                   with_reducible rfl
                  rotate_left
                  ·simp only [Act.put, sx_, s0_, s1_, i64_w, i32_w]
                   rfl
                  refine pure_ (i := 2) (N := some 97) (v := ?_) (a' := ?_) #[true, false, true, false, false, false, false, false, false, false, false, false, false] rfl rfl (any_of HT_.out kr_) (fun _ _ _ h => h) (Or.inl ⟨by rfl, ?_⟩) ?_ ?_
                  rotate_left
                  ·intro w'
                   go_simp
                   with_reducible rfl
                  rotate_left
                  ·simp only [Act.put, sx_, s0_, s1_, i64_w, i32_w]
                   rfl
                  refine pure_ (i := 6) (N := some 101) (v := ?_) (a' := ?_) #[true, false, true, false, false, false, true, false, false, false, false, false, false] rfl rfl (any_of HT_.out kr_) (fun _ _ _ h => h) (Or.inl ⟨by rfl, ?_⟩) ?_ ?_
                  rotate_left
                  ·intro w'
                   go_simp
                   with_reducible rfl
                  rotate_left
                  ·simp only [Act.put, sx_, s0_, s1_, i64_w, i32_w]
                   rfl
                  refine pure_ (i := 8) (N := some 103) (v := ?_) (a' := ?_) #[true, false, true, false, false, false, true, false, true, false, false, false, false] rfl rfl (any_of HT_.out kr_) (fun _ _ _ h => h) (Or.inl ⟨by rfl, ?_⟩) ?_ ?_
                  rotate_left
                  ·intro w'
                   go_simp
                   with_reducible rfl
                  rotate_left
                  ·simp only [Act.put, sx_, s0_, s1_, i64_w, i32_w]
                   rfl
                  refine take_ (i := 1) (N := some 96) (v := ?_) (a' := ?_) #[true, true, true, false, false, false, true, false, true, false, false, false, false] rfl rfl (take_ofW HT_.out HW_.out kr_) (fun _ _ _ h => h) (Or.inl ⟨by rfl, ?_⟩) hHeld ?_ ?_
                  rotate_left
                  ·rintro w' ⟨s0, s1, s2, s3, s4, s5, s6, s7, s8⟩
                   go_simp
                   with_reducible rfl
                  rotate_left
                  ·simp only [Act.put, sx_, s0_, s1_, i64_w, i32_w]
                   rfl
                  refine pure_ (i := 3) (N := some 98) (v := ?_) (a' := ?_) #[true, true, true, true, false, false, true, false, true, false, false, false, false] rfl rfl (any_of HT_.out kr_) (fun _ _ _ h => h) (Or.inl ⟨by rfl, ?_⟩) ?_ ?_
                  rotate_left
                  ·intro w'
                   go_simp
                   with_reducible rfl
                  rotate_left
                  ·simp only [Act.put, sx_, s0_, s1_, i64_w, i32_w]
                   rfl
                  refine pure_ (i := 4) (N := some 99) (v := ?_) (a' := ?_) #[true, true, true, true, true, false, true, false, true, false, false, false, false] rfl rfl (any_of HT_.out kr_) (fun _ _ _ h => h) (Or.inl ⟨by rfl, ?_⟩) ?_ ?_
                  rotate_left
                  ·intro w'
                   go_simp
                   with_reducible rfl
                  rotate_left
                  ·simp only [Act.put, sx_, s0_, s1_, i64_w, i32_w]
                   rfl
                  refine take_ (i := 5) (N := some 100) (v := ?_) (a' := ?_) #[true, true, true, true, true, true, true, false, true, false, false, false, false] rfl rfl (take_ofW HT_.out HW_.out kr_) (fun _ _ _ h => h) (Or.inl ⟨by rfl, ?_⟩) hHeld ?_ ?_
                  rotate_left
                  ·rintro w' ⟨s0, s1, s2, s3, s4, s5, s6, s7, s8⟩
                   go_simp
                   with_reducible rfl
                  rotate_left
                  ·simp only [Act.put, sx_, s0_, s1_, i64_w, i32_w]
                   rfl
                  refine take_ (i := 7) (N := some 102) (v := ?_) (a' := ?_) #[true, true, true, true, true, true, true, true, true, false, false, false, false] rfl rfl (take_ofW HT_.out HW_.out kr_) (fun _ _ _ h => h) (Or.inl ⟨by rfl, ?_⟩) hHeld ?_ ?_
                  rotate_left
                  ·rintro w' ⟨s0, s1, s2, s3, s4, s5, s6, s7, s8⟩
                   go_simp
                   with_reducible rfl
                  rotate_left
                  ·simp only [Act.put, sx_, s0_, s1_, i64_w, i32_w]
                   rfl
                  refine pure_ (i := 9) (N := some 104) (v := ?_) (a' := ?_) #[true, true, true, true, true, true, true, true, true, true, false, false, false] rfl rfl (any_of HT_.out kr_) (fun _ _ _ h => h) (Or.inl ⟨by rfl, ?_⟩) ?_ ?_
                  rotate_left
                  ·intro w'
                   go_simp
                   with_reducible rfl
                  rotate_left
                  ·simp only [Act.put, sx_, s0_, s1_, i64_w, i32_w]
                   rfl
                  refine pure_ (i := 10) (N := some 105) (v := ?_) (a' := ?_) #[true, true, true, true, true, true, true, true, true, true, true, false, false] rfl rfl (any_of HT_.out kr_) (fun _ _ _ h => h) (Or.inl ⟨by rfl, ?_⟩) ?_ ?_
                  rotate_left
                  ·intro w'
                   go_simp
                   with_reducible rfl
                  rotate_left
                  ·simp only [Act.put, sx_, s0_, s1_, i64_w, i32_w]
                   rfl
                  refine take_ (i := 11) (N := some 106) (v := ?_) (a' := ?_) #[true, true, true, true, true, true, true, true, true, true, true, true, false] rfl rfl (take_ofW HT_.out HW_.out kr_) (fun _ _ _ h => h) (Or.inl ⟨by rfl, ?_⟩) hHeld ?_ ?_
                  rotate_left
                  ·rintro w' ⟨s0, s1, s2, s3, s4, s5, s6, s7, s8⟩
                   go_simp
                   with_reducible rfl
                  rotate_left
                  ·simp only [Act.put, sx_, s0_, s1_, i64_w, i32_w]
                   rfl
                  refine pure_ (i := 12) (N := some 107) (v := ?_) (a' := ?_) #[true, true, true, true, true, true, true, true, true, true, true, true, true] rfl rfl (any_of HT_.out kr_) (fun _ _ _ h => h) (Or.inl ⟨by rfl, ?_⟩) ?_ ?_
                  rotate_left
                  ·intro w'
                   go_simp
                   with_reducible rfl
                  rotate_left
                  ·simp only [Act.put, sx_, s0_, s1_, i64_w, i32_w]
                   rfl
                  refine done_ (done_of HT_.out kr_) ?_
                  try go_wp2
                  go_roundg k4
                  case measure => have := HJ1.out; have := HK2.out; have := HK3.out; have := HK4.out; omega
                  case rel => exact ⟨(wrap64 (x6_4 + 1)), sd_, H', ⟨by have := HJ1.out; have := HK2.out; have := HK3.out; have := HK4.out; omega⟩, ⟨by (with_reducible repeat (first | refine blk_drewN ?_ _ | refine blk_drew ?_ | refine blk_alloc ?_ _)); exact BK180.out⟩, ⟨bel_ HB.out⟩⟩
                ·rw [if_neg c67] at H
                 exact absurd H (by simp)
               ·rw [if_neg c66] at H
                exact absurd H (by simp)
              ·rw [if_neg c65] at H
               exact absurd H (by simp)
             ·rw [if_neg c64] at H
              exact absurd H (by simp)
            ·rw [if_neg c63] at H
             have c63b0 : decide (x6_4 < x5_3) = false := decide_eq_false c63
             clear c63
             have H' := Aside0.mk H
             clear H
             go_wp2
             go_roundg k4
             case measure => have := HJ1.out; have := HK2.out; have := HK3.out; have := HK4.out; omega
             case rel => exact ⟨(wrap64 (x5_3 + 1)), sd_, H', ⟨by have := HJ1.out; have := HK2.out; have := HK3.out; have := HK4.out; omega⟩, ⟨by (with_reducible repeat (first | refine blk_drewN ?_ _ | refine blk_drew ?_ | refine blk_alloc ?_ _)); exact BK180.out⟩, ⟨bel_ HB.out⟩⟩
         ·rw [if_neg c61] at H
          have c61b0 : decide (x5_3 < (l0_4.length : Int)) = false := decide_eq_false c61
          clear c61
          obtain rfl := Option.some.inj H
          have hcz71_0 : wr.cell? ⟨gb180, 0, none⟩ = some (.int .i64 a0_0) := (blk_cell BK180.out 0).trans rfl
          have hcz71_1 : wr.cell? ⟨gb180, 1, none⟩ = some (.string a0_1) := (blk_cell BK180.out 1).trans rfl
          have hcz71_2 : wr.cell? ⟨gb180, 2, none⟩ = some (.string a0_2) := (blk_cell BK180.out 2).trans rfl
          have hcz71_3 : wr.cell? ⟨gb180, 3, none⟩ = some (.slice A0_3 l0_3.length c0_3) := (blk_cell BK180.out 3).trans rfl
          have hcz71_4 : wr.cell? ⟨gb180, 4, none⟩ = some (.slice A0_4 l0_4.length c0_4) := (blk_cell BK180.out 4).trans rfl
          have hfz71_0 := blk_frozen BK180.out 0
          have hfz71_1 := blk_frozen BK180.out 1
          have hfz71_2 := blk_frozen BK180.out 2
          have hfz71_3 := blk_frozen BK180.out 3
          have hfz71_4 := blk_frozen BK180.out 4
          go_wp2
          go_ret
          exact ⟨fi_, bel_ HB.out⟩

end Go.Proofs.YtompldnifiieaaaDoor.P
