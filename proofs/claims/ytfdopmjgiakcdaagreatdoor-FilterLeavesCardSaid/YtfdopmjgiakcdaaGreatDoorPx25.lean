-- written by wip/tool/hprint.py of this repo: the kit's print, with contracts by hand joined; Lean checks it.
import Derived.Test.YtfdopmjgiakcdaaGreatDoorPx0
import Derived.Test.YtfdopmjgiakcdaaGreatDoorPx4
import Derived.Test.YtfdopmjgiakcdaaGreatDoorPx8
import Derived.Test.YtfdopmjgiakcdaaGreatDoorPx10
import Derived.Test.YtfdopmjgiakcdaaGreatDoorPx11
import Derived.Test.YtfdopmjgiakcdaaGreatDoorPx13
import Derived.Test.YtfdopmjgiakcdaaGreatDoorPx17
import Derived.Test.YtfdopmjgiakcdaaGreatDoorPx18
namespace Go.Proofs.YtfdopmjgiakcdaaGreatDoor.P
open Go.RowKit Go.Proofs.YtfdopmjgiakcdaaGreatDoorW.PrintWords Go.Proofs.YtfdopmjgiakcdaaGreatDoorW.PrintLast Go.Proofs.YtfdopmjgiakcdaaGreatDoorW.PrintMore
attribute [local go_sem] max2_int min2_int max_two min_two max_three min_three max_four min_four   -- for this text's walks alone
set_option linter.unusedVariables false
set_option linter.unusedSimpArgs false

/-! ### tolllaw07_FilterLeaves: function 5 -/
mutual
def tolllaw07_FilterLeaves.j0 : Nat → ByteArray → Bool → List (S26) → Int → ByteArray → ByteArray → ByteArray → ByteArray → List (S59) → List (S59) → Bool → ByteArray → ByteArray → ByteArray → List (S59) → List (S59) → Option (Bool)
 | 0, _, _, _, _, _, _, _, _, _, _, _, _, _, _, _, _ => none
 | k + 1, x1, x58, x454000, x454001, x454002, x454003, x454004, x454005, x454006, x454007, x454008, x481000, x481001, x481002, x481003, x481004 => if x58 = true then (none) else (tolllaw07_FilterLeaves.l0 k x1 0 x454000 x454001 x454002 x454003 x454004 x454005 x454006 x454007 x454008 x481000 x481001 x481002 x481003 x481004)
def tolllaw07_FilterLeaves.l0 : Nat → ByteArray → Int → List (S26) → Int → ByteArray → ByteArray → ByteArray → ByteArray → List (S59) → List (S59) → Bool → ByteArray → ByteArray → ByteArray → List (S59) → List (S59) → Option (Bool)
 | 0, _, _, _, _, _, _, _, _, _, _, _, _, _, _, _, _ => none
 | k + 1, x1, x9, x454000, x454001, x454002, x454003, x454004, x454005, x454006, x454007, x454008, x481000, x481001, x481002, x481003, x481004 => if x9 < (x454000.length : Int) then (if 0 ≤ x9 then (if ((rd_T26 x454000 x9).f0) < 4 then ((tollref05_Same.f k ((rd_T26 x454000 x9).f1) x1).bind fun t498 => (if t498 = true then (if x481000.toList = x454003.toList then ((tolllaw07_awake.f k).bind fun t499 => (some t499)) else (none)) else (tolllaw07_FilterLeaves.l0 k x1 (wrap64 (x9 + 1)) x454000 x454001 x454002 x454003 x454004 x454005 x454006 x454007 x454008 x481000 x481001 x481002 x481003 x481004))) else (tolllaw07_FilterLeaves.l0 k x1 (wrap64 (x9 + 1)) x454000 x454001 x454002 x454003 x454004 x454005 x454006 x454007 x454008 x481000 x481001 x481002 x481003 x481004)) else (none)) else (if x481000.toList = x454003.toList then ((tollref04_Same.f k x481003 x454006).bind fun t500 => (if t500 = true then ((tollref05_All.f k x481004 x1).bind fun t501 => ((tollref05_All.f k x454007 x1).bind fun t504 => ((tollref01_Same.f k t501 t504).bind fun t507 => (if t507 = true then ((tolllaw07_awake.f k).bind fun t508 => (some t508)) else (none))))) else (none))) else (none))
end
def tolllaw07_FilterLeaves.f (k : Nat) (l0_0 : List (S26)) (a0_1 : Int) (a0_2 : ByteArray) (a0_3 : ByteArray) (a0_4 : ByteArray) (a0_5 : ByteArray) (l0_6 : List (S59)) (l0_7 : List (S59)) (a0_8 : Bool) (a1 : ByteArray) : Option (Bool) := (tolllaw07_cut.f k l0_0 a0_1 a0_2 a0_3 a0_4 a0_5 l0_6 l0_7 a0_8).bind fun bt454 => ((tolllaw01_Few.f a1).bind fun t469 => ((filter_Do.f k bt454.1 bt454.2.1 bt454.2.2.1 bt454.2.2.2.1 bt454.2.2.2.2.1 bt454.2.2.2.2.2.1 bt454.2.2.2.2.2.2.1 bt454.2.2.2.2.2.2.2.1).bind fun bt470 => (if bt470.2.2.2.2.2 = 0 then ((filter_Do.f k ([] : List (S26)) bt454.2.1 bt454.2.2.1 bt454.2.2.2.1 bt454.2.2.2.2.1 bt454.2.2.2.2.2.1 bt454.2.2.2.2.2.2.1 bt454.2.2.2.2.2.2.2.1).bind fun bt483 => (if (bt454.2.2.2.2.2.2.2.1.length : Int) > 30 then (if bt483.2.2.2.2.2 = 5 then ((tolllaw07_awake.f k).bind fun t494 => (some t494)) else (none)) else ((tollref07_SameAsk.f k bt483.1 bt483.2.1 bt483.2.2.1 bt483.2.2.2.1 bt483.2.2.2.2.1 bt454.2.2.2.1 bt454.2.2.2.2.1 bt454.2.2.2.2.2.1 bt454.2.2.2.2.2.2.1 bt454.2.2.2.2.2.2.2.1).bind fun t495 => (if t495 = true then (tolllaw07_FilterLeaves.j0 k t469 (bt483.2.2.2.2.2 != 0) bt454.1 bt454.2.1 bt454.2.2.1 bt454.2.2.2.1 bt454.2.2.2.2.1 bt454.2.2.2.2.2.1 bt454.2.2.2.2.2.2.1 bt454.2.2.2.2.2.2.2.1 bt454.2.2.2.2.2.2.2.2 bt470.1 bt470.2.1 bt470.2.2.1 bt470.2.2.2.1 bt470.2.2.2.2.1) else (none))))) else ((tollref07_SameAsk.f k bt470.1 bt470.2.1 bt470.2.2.1 bt470.2.2.2.1 bt470.2.2.2.2.1 (⟨#[]⟩ : ByteArray) (⟨#[]⟩ : ByteArray) (⟨#[]⟩ : ByteArray) ([] : List (S59)) ([] : List (S59))).bind fun t481 => (if t481 = true then ((tolllaw07_awake.f k).bind fun t482 => (some t482)) else (none))))))
theorem tolllaw07_FilterLeaves.mono_l : ∀ k, (∀ y0 y1 y2 y3 y4 y5 y6 y7 y8 y9 y10 y11 y12 y13 y14 y15, LeO (tolllaw07_FilterLeaves.j0 k y0 y1 y2 y3 y4 y5 y6 y7 y8 y9 y10 y11 y12 y13 y14 y15) (tolllaw07_FilterLeaves.j0 (k + 1) y0 y1 y2 y3 y4 y5 y6 y7 y8 y9 y10 y11 y12 y13 y14 y15)) ∧ (∀ y0 y1 y2 y3 y4 y5 y6 y7 y8 y9 y10 y11 y12 y13 y14 y15, LeO (tolllaw07_FilterLeaves.l0 k y0 y1 y2 y3 y4 y5 y6 y7 y8 y9 y10 y11 y12 y13 y14 y15) (tolllaw07_FilterLeaves.l0 (k + 1) y0 y1 y2 y3 y4 y5 y6 y7 y8 y9 y10 y11 y12 y13 y14 y15))
 | 0 => ⟨fun _ _ _ _ _ _ _ _ _ _ _ _ _ _ _ _ r h => by simp [tolllaw07_FilterLeaves.j0] at h, fun _ _ _ _ _ _ _ _ _ _ _ _ _ _ _ _ r h => by simp [tolllaw07_FilterLeaves.l0] at h⟩
 | k + 1 => by
  obtain ⟨ih0, ih1⟩ := tolllaw07_FilterLeaves.mono_l k
  refine ⟨?_, ?_⟩
  ·intro y0 y1 y2 y3 y4 y5 y6 y7 y8 y9 y10 y11 y12 y13 y14 y15
   unfold tolllaw07_FilterLeaves.j0
   repeat' first
   | (with_reducible exact ih0 _ _ _ _ _ _ _ _ _ _ _ _ _ _ _ _)
   | (with_reducible exact ih1 _ _ _ _ _ _ _ _ _ _ _ _ _ _ _ _)
   | (with_reducible exact filter_Do.mono _ _ _ _ _ _ _ _ _)
   | (with_reducible exact tolllaw07_awake.mono _)
   | (with_reducible exact tolllaw07_cut.mono _ _ _ _ _ _ _ _ _ _)
   | (with_reducible exact tollref01_Same.mono _ _ _)
   | (with_reducible exact tollref04_Same.mono _ _ _)
   | (with_reducible exact tollref05_All.mono _ _ _)
   | (with_reducible exact tollref05_Same.mono _ _ _)
   | (with_reducible exact tollref07_SameAsk.mono _ _ _ _ _ _ _ _ _ _ _)
   | (with_reducible exact LeO.refl _)
   | (with_reducible exact LeO.none _)
   | (with_reducible refine LeO.ite ?_ ?_)
   | (with_reducible refine LeO.bind ?_ (fun _ => ?_))
   | exact ih0 _ _ _ _ _ _ _ _ _ _ _ _ _ _ _ _
   | exact ih1 _ _ _ _ _ _ _ _ _ _ _ _ _ _ _ _
   | exact filter_Do.mono _ _ _ _ _ _ _ _ _
   | exact tolllaw07_awake.mono _
   | exact tolllaw07_cut.mono _ _ _ _ _ _ _ _ _ _
   | exact tollref01_Same.mono _ _ _
   | exact tollref04_Same.mono _ _ _
   | exact tollref05_All.mono _ _ _
   | exact tollref05_Same.mono _ _ _
   | exact tollref07_SameAsk.mono _ _ _ _ _ _ _ _ _ _ _
   | exact LeO.none _
   | refine LeO.ite ?_ ?_
   | refine LeO.bind ?_ (fun _ => ?_)
  ·intro y0 y1 y2 y3 y4 y5 y6 y7 y8 y9 y10 y11 y12 y13 y14 y15
   unfold tolllaw07_FilterLeaves.l0
   repeat' first
   | (with_reducible exact ih0 _ _ _ _ _ _ _ _ _ _ _ _ _ _ _ _)
   | (with_reducible exact ih1 _ _ _ _ _ _ _ _ _ _ _ _ _ _ _ _)
   | (with_reducible exact filter_Do.mono _ _ _ _ _ _ _ _ _)
   | (with_reducible exact tolllaw07_awake.mono _)
   | (with_reducible exact tolllaw07_cut.mono _ _ _ _ _ _ _ _ _ _)
   | (with_reducible exact tollref01_Same.mono _ _ _)
   | (with_reducible exact tollref04_Same.mono _ _ _)
   | (with_reducible exact tollref05_All.mono _ _ _)
   | (with_reducible exact tollref05_Same.mono _ _ _)
   | (with_reducible exact tollref07_SameAsk.mono _ _ _ _ _ _ _ _ _ _ _)
   | (with_reducible exact LeO.refl _)
   | (with_reducible exact LeO.none _)
   | (with_reducible refine LeO.ite ?_ ?_)
   | (with_reducible refine LeO.bind ?_ (fun _ => ?_))
   | exact ih0 _ _ _ _ _ _ _ _ _ _ _ _ _ _ _ _
   | exact ih1 _ _ _ _ _ _ _ _ _ _ _ _ _ _ _ _
   | exact filter_Do.mono _ _ _ _ _ _ _ _ _
   | exact tolllaw07_awake.mono _
   | exact tolllaw07_cut.mono _ _ _ _ _ _ _ _ _ _
   | exact tollref01_Same.mono _ _ _
   | exact tollref04_Same.mono _ _ _
   | exact tollref05_All.mono _ _ _
   | exact tollref05_Same.mono _ _ _
   | exact tollref07_SameAsk.mono _ _ _ _ _ _ _ _ _ _ _
   | exact LeO.none _
   | refine LeO.ite ?_ ?_
   | refine LeO.bind ?_ (fun _ => ?_)
theorem tolllaw07_FilterLeaves.mono : ∀ a0 a1 a2 a3 a4 a5 a6 a7 a8 a9 k, LeO (tolllaw07_FilterLeaves.f k a0 a1 a2 a3 a4 a5 a6 a7 a8 a9) (tolllaw07_FilterLeaves.f (k + 1) a0 a1 a2 a3 a4 a5 a6 a7 a8 a9) := by
 intro a0 a1 a2 a3 a4 a5 a6 a7 a8 a9 k
 obtain ⟨ih0, ih1⟩ := tolllaw07_FilterLeaves.mono_l k
 unfold tolllaw07_FilterLeaves.f
 repeat' first
   | (with_reducible exact ih0 _ _ _ _ _ _ _ _ _ _ _ _ _ _ _ _)
   | (with_reducible exact ih1 _ _ _ _ _ _ _ _ _ _ _ _ _ _ _ _)
   | (with_reducible exact filter_Do.mono _ _ _ _ _ _ _ _ _)
   | (with_reducible exact tolllaw07_awake.mono _)
   | (with_reducible exact tolllaw07_cut.mono _ _ _ _ _ _ _ _ _ _)
   | (with_reducible exact tollref01_Same.mono _ _ _)
   | (with_reducible exact tollref04_Same.mono _ _ _)
   | (with_reducible exact tollref05_All.mono _ _ _)
   | (with_reducible exact tollref05_Same.mono _ _ _)
   | (with_reducible exact tollref07_SameAsk.mono _ _ _ _ _ _ _ _ _ _ _)
   | (with_reducible exact LeO.refl _)
   | (with_reducible exact LeO.none _)
   | (with_reducible refine LeO.ite ?_ ?_)
   | (with_reducible refine LeO.bind ?_ (fun _ => ?_))
   | exact ih0 _ _ _ _ _ _ _ _ _ _ _ _ _ _ _ _
   | exact ih1 _ _ _ _ _ _ _ _ _ _ _ _ _ _ _ _
   | exact filter_Do.mono _ _ _ _ _ _ _ _ _
   | exact tolllaw07_awake.mono _
   | exact tolllaw07_cut.mono _ _ _ _ _ _ _ _ _ _
   | exact tollref01_Same.mono _ _ _
   | exact tollref04_Same.mono _ _ _
   | exact tollref05_All.mono _ _ _
   | exact tollref05_Same.mono _ _ _
   | exact tollref07_SameAsk.mono _ _ _ _ _ _ _ _ _ _ _
   | exact LeO.none _
   | refine LeO.ite ?_ ?_
   | refine LeO.bind ?_ (fun _ => ?_)
def tolllaw07_FilterLeaves.T15 : Bool × List (List Nat × List Nat) := (true, [([], []), ([0], [0]), ([], []), ([2], [2]), ([3], [3]), ([1, 4], [1, 4]), ([5], [5]), ([6], [6]), ([7, 6], [6, 7]), ([6], [6]), ([9, 6], [6, 9]), ([10, 6], [6, 10]), ([8, 11, 6, 6], [6, 8, 11]), ([6, 12], [6, 12]), ([13, 12], [13]), ([14], [14]), ([15, 14], [14, 15]), ([14], [14]), ([16, 17, 14, 14], [14, 16, 17]), ([14], [14]), ([19, 14], [14, 19]), ([20, 14], [14, 20]), ([14], [14]), ([21, 22, 18, 14], [14, 21, 22]), ([18, 23, 23, 14], [14, 18, 23]), ([14, 24], [14, 24]), ([25, 24], [25]), ([26, 26], [26]), ([26, 27], [26, 27]), ([28, 27, 0, 1, 2, 3, 4, 5, 6, 7, 8, 9, 10, 11, 12, 13, 14, 15, 16, 17, 18, 19, 20, 21, 22, 23, 24, 25, 26, 27, 28], [28])])
def tolllaw07_FilterLeaves.B15 : List Nat := [0, 1, 0, 4, 12, 31, 63, 127, 255, 127, 639, 1663, 4095, 8191, 16383, 32767, 65535, 32767, 262143, 32767, 557055, 1605631, 32767, 8388607, 16777215, 33554431, 67108863, 134217727, 268435455, 536870911]
theorem tolllaw07_FilterLeaves.tab15 : rtab .any (opsOf Tryz.f5 15) = tolllaw07_FilterLeaves.T15 := by kernel_rfl
theorem tolllaw07_FilterLeaves.bits15 : waitsOk tolllaw07_FilterLeaves.T15.2 tolllaw07_FilterLeaves.B15 = true := by kernel_rfl
set_option maxHeartbeats 6000000 in
set_option maxRecDepth 100000 in
theorem tolllaw07_FilterLeaves.calls (k : Nat) (A0_0 : Option Addr) (c0_0 : Nat) (l0_0 : List (S26)) (a0_1 : Int) (a0_2 : ByteArray) (a0_3 : ByteArray) (a0_4 : ByteArray) (a0_5 : ByteArray) (A0_6 : Option Addr) (c0_6 : Nat) (l0_6 : List (S59)) (A0_7 : Option Addr) (c0_7 : Nat) (l0_7 : List (S59)) (a0_8 : Bool) (a1 : ByteArray) (r : Bool) (w : World) (hr0_0 : Kd.C k26 w A0_0 l0_0.length l0_0) (hc0_0 : l0_0.length ≤ c0_0) (hr0_6 : Kd.C k59 w A0_6 l0_6.length l0_6) (hc0_6 : l0_6.length ≤ c0_6) (hr0_7 : Kd.C k59 w A0_7 l0_7.length l0_7) (hc0_7 : l0_7.length ≤ c0_7) (hG : MaxL w) (h : tolllaw07_FilterLeaves.f k l0_0 a0_1 a0_2 a0_3 a0_4 a0_5 l0_6 l0_7 a0_8 a1 = some r) :
  Calls Tryz.prog 5 #[.agg #[.slice A0_0 l0_0.length c0_0, .int .i64 a0_1, .string a0_2, .string a0_3, .string a0_4, .string a0_5, .slice A0_6 l0_6.length c0_6, .slice A0_7 l0_7.length c0_7, .bool a0_8], .string a1] w fun e w' => e = .returned (.bool r) ∧ Below w.heap.size w w' := by
 have HGL := am_ hG
 clear hG
 have hu35 := Tryz.underlying35
 have hu30 := Tryz.underlying30
 have hu33 := Tryz.underlying33
 have HR0_0 := Aside0.mk hr0_0
 have HC0_0 := Aside0.mk hc0_0
 clear hr0_0 hc0_0
 have HR0_6 := Aside0.mk hr0_6
 have HC0_6 := Aside0.mk hc0_6
 clear hr0_6 hc0_6
 have HR0_7 := Aside0.mk hr0_7
 have HC0_7 := Aside0.mk hc0_7
 clear hr0_7 hc0_7
 have HB := am_ (Below.refl w.heap.size w)
 have H : ((tolllaw07_cut.f k l0_0 a0_1 a0_2 a0_3 a0_4 a0_5 l0_6 l0_7 a0_8).bind fun bt454 => ((tolllaw01_Few.f a1).bind fun t469 => ((filter_Do.f k bt454.1 bt454.2.1 bt454.2.2.1 bt454.2.2.2.1 bt454.2.2.2.2.1 bt454.2.2.2.2.2.1 bt454.2.2.2.2.2.2.1 bt454.2.2.2.2.2.2.2.1).bind fun bt470 => (if bt470.2.2.2.2.2 = 0 then ((filter_Do.f k ([] : List (S26)) bt454.2.1 bt454.2.2.1 bt454.2.2.2.1 bt454.2.2.2.2.1 bt454.2.2.2.2.2.1 bt454.2.2.2.2.2.2.1 bt454.2.2.2.2.2.2.2.1).bind fun bt483 => (if (bt454.2.2.2.2.2.2.2.1.length : Int) > 30 then (if bt483.2.2.2.2.2 = 5 then ((tolllaw07_awake.f k).bind fun t494 => (some t494)) else (none)) else ((tollref07_SameAsk.f k bt483.1 bt483.2.1 bt483.2.2.1 bt483.2.2.2.1 bt483.2.2.2.2.1 bt454.2.2.2.1 bt454.2.2.2.2.1 bt454.2.2.2.2.2.1 bt454.2.2.2.2.2.2.1 bt454.2.2.2.2.2.2.2.1).bind fun t495 => (if t495 = true then (tolllaw07_FilterLeaves.j0 k t469 (bt483.2.2.2.2.2 != 0) bt454.1 bt454.2.1 bt454.2.2.1 bt454.2.2.2.1 bt454.2.2.2.2.1 bt454.2.2.2.2.2.1 bt454.2.2.2.2.2.2.1 bt454.2.2.2.2.2.2.2.1 bt454.2.2.2.2.2.2.2.2 bt470.1 bt470.2.1 bt470.2.2.1 bt470.2.2.2.1 bt470.2.2.2.2.1) else (none))))) else ((tollref07_SameAsk.f k bt470.1 bt470.2.1 bt470.2.2.1 bt470.2.2.2.1 bt470.2.2.2.2.1 (⟨#[]⟩ : ByteArray) (⟨#[]⟩ : ByteArray) (⟨#[]⟩ : ByteArray) ([] : List (S59)) ([] : List (S59))).bind fun t481 => (if t481 = true then ((tolllaw07_awake.f k).bind fun t482 => (some t482)) else (none))))))) = some r := h
 clear h
 replace H := Option.bind_eq_some_iff.mp H
 obtain ⟨⟨t454, t457, t458, t459, t460, t461, t462, t465, t468⟩, A30, H⟩ := H
 replace H : ((tolllaw01_Few.f a1).bind fun t469 => ((filter_Do.f k t454 t457 t458 t459 t460 t461 t462 t465).bind fun bt470 => (if bt470.2.2.2.2.2 = 0 then ((filter_Do.f k ([] : List (S26)) t457 t458 t459 t460 t461 t462 t465).bind fun bt483 => (if (t465.length : Int) > 30 then (if bt483.2.2.2.2.2 = 5 then ((tolllaw07_awake.f k).bind fun t494 => (some t494)) else (none)) else ((tollref07_SameAsk.f k bt483.1 bt483.2.1 bt483.2.2.1 bt483.2.2.2.1 bt483.2.2.2.2.1 t459 t460 t461 t462 t465).bind fun t495 => (if t495 = true then (tolllaw07_FilterLeaves.j0 k t469 (bt483.2.2.2.2.2 != 0) t454 t457 t458 t459 t460 t461 t462 t465 t468 bt470.1 bt470.2.1 bt470.2.2.1 bt470.2.2.2.1 bt470.2.2.2.2.1) else (none))))) else ((tollref07_SameAsk.f k bt470.1 bt470.2.1 bt470.2.2.1 bt470.2.2.2.1 bt470.2.2.2.2.1 (⟨#[]⟩ : ByteArray) (⟨#[]⟩ : ByteArray) (⟨#[]⟩ : ByteArray) ([] : List (S59)) ([] : List (S59))).bind fun t481 => (if t481 = true then ((tolllaw07_awake.f k).bind fun t482 => (some t482)) else (none)))))) = some r := H
 have A3 := Aside0.mk A30
 clear A30
 replace H := Option.bind_eq_some_iff.mp H
 obtain ⟨t469, A40, H⟩ := H
 replace H : ((filter_Do.f k t454 t457 t458 t459 t460 t461 t462 t465).bind fun bt470 => (if bt470.2.2.2.2.2 = 0 then ((filter_Do.f k ([] : List (S26)) t457 t458 t459 t460 t461 t462 t465).bind fun bt483 => (if (t465.length : Int) > 30 then (if bt483.2.2.2.2.2 = 5 then ((tolllaw07_awake.f k).bind fun t494 => (some t494)) else (none)) else ((tollref07_SameAsk.f k bt483.1 bt483.2.1 bt483.2.2.1 bt483.2.2.2.1 bt483.2.2.2.2.1 t459 t460 t461 t462 t465).bind fun t495 => (if t495 = true then (tolllaw07_FilterLeaves.j0 k t469 (bt483.2.2.2.2.2 != 0) t454 t457 t458 t459 t460 t461 t462 t465 t468 bt470.1 bt470.2.1 bt470.2.2.1 bt470.2.2.2.1 bt470.2.2.2.2.1) else (none))))) else ((tollref07_SameAsk.f k bt470.1 bt470.2.1 bt470.2.2.1 bt470.2.2.2.1 bt470.2.2.2.2.1 (⟨#[]⟩ : ByteArray) (⟨#[]⟩ : ByteArray) (⟨#[]⟩ : ByteArray) ([] : List (S59)) ([] : List (S59))).bind fun t481 => (if t481 = true then ((tolllaw07_awake.f k).bind fun t482 => (some t482)) else (none))))) = some r := H
 have A4 := Aside0.mk A40
 clear A40
 replace H := Option.bind_eq_some_iff.mp H
 obtain ⟨⟨t470, t471, t472, t473, t476, t479⟩, A50, H⟩ := H
 replace H : (if t479 = 0 then ((filter_Do.f k ([] : List (S26)) t457 t458 t459 t460 t461 t462 t465).bind fun bt483 => (if (t465.length : Int) > 30 then (if bt483.2.2.2.2.2 = 5 then ((tolllaw07_awake.f k).bind fun t494 => (some t494)) else (none)) else ((tollref07_SameAsk.f k bt483.1 bt483.2.1 bt483.2.2.1 bt483.2.2.2.1 bt483.2.2.2.2.1 t459 t460 t461 t462 t465).bind fun t495 => (if t495 = true then (tolllaw07_FilterLeaves.j0 k t469 (bt483.2.2.2.2.2 != 0) t454 t457 t458 t459 t460 t461 t462 t465 t468 t470 t471 t472 t473 t476) else (none))))) else ((tollref07_SameAsk.f k t470 t471 t472 t473 t476 (⟨#[]⟩ : ByteArray) (⟨#[]⟩ : ByteArray) (⟨#[]⟩ : ByteArray) ([] : List (S59)) ([] : List (S59))).bind fun t481 => (if t481 = true then ((tolllaw07_awake.f k).bind fun t482 => (some t482)) else (none)))) = some r := H
 have A5 := Aside0.mk A50
 clear A50
 by_cases c6 : t479 = 0
 ·rw [if_pos c6] at H
  have c6b0 : (t479 == 0) = true := beq_iff_eq.mpr c6
  have c6b1 : (t479 != 0) = false := bne_eq_false_iff_eq.mpr c6
  clear c6
  replace H := Option.bind_eq_some_iff.mp H
  obtain ⟨⟨t483, t484, t485, t486, t489, t492⟩, A70, H⟩ := H
  replace H : (if (t465.length : Int) > 30 then (if t492 = 5 then ((tolllaw07_awake.f k).bind fun t494 => (some t494)) else (none)) else ((tollref07_SameAsk.f k t483 t484 t485 t486 t489 t459 t460 t461 t462 t465).bind fun t495 => (if t495 = true then (tolllaw07_FilterLeaves.j0 k t469 (t492 != 0) t454 t457 t458 t459 t460 t461 t462 t465 t468 t470 t471 t472 t473 t476) else (none)))) = some r := H
  have A7 := Aside0.mk A70
  clear A70
  by_cases c8 : (t465.length : Int) > 30
  ·rw [if_pos c8] at H
   have c8b0 : decide (30 < (t465.length : Int)) = true := decide_eq_true c8
   have c8b1 : decide (30 < t465.length) = true := decide_eq_true (by omega)
   clear c8
   by_cases c9 : t492 = 5
   ·rw [if_pos c9] at H
    have c9b0 : (t492 == 5) = true := beq_iff_eq.mpr c9
    have c9b1 : (t492 != 5) = false := bne_eq_false_iff_eq.mpr c9
    clear c9
    replace H := Option.bind_eq_some_iff.mp H
    obtain ⟨t494, A100, H⟩ := H
    replace H : (some t494) = some r := H
    have A10 := Aside0.mk A100
    clear A100
    obtain rfl := Option.some.inj H
    go_enter Tryz.func5, Tryz.ntmps5
    go_wp2_with (first | ((with_reducible refine gate_dst (N := 2) rfl ?_); refine box_event ?hg (N := 2) ?hd (cs := #[.slice A0_0 l0_0.length c0_0, .int .i64 a0_1, .string a0_2, .string a0_3, .string a0_4, .string a0_5, .slice A0_6 l0_6.length c0_6, .slice A0_7 l0_7.length c0_7, .bool a0_8]) (t := 35) ?hr ?_; (case hd => rfl); (case hg => rfl); (case hr => first | (go_simp; done) | (go_simp; rfl)); intro gb453 hg w11 hbox hb; have n0_ := am_ (below_step (bel_ HB.out) hb); have n1_ := am_ (hbox); have n2_ := am_ ((by rw [hg]; exact (below_size (bel_ HB.out)) : w.heap.size ≤ gb453)); have n3_ := am_ ((by rw [hg]; exact (below_size (bel_ HB.out)) : w.heap.size ≤ gb453)); clear HB; have HB := n0_; have BK453 := n1_; have GW453 := n2_; have GE453 := n3_; clear n0_ n1_ n2_ n3_ hb hbox hg; obtain ⟨hcz12_0, hcz12_1, hcz12_2, hcz12_3, hcz12_4, hcz12_5, hcz12_6, hcz12_7, hcz12_8, hfz12_0, hfz12_1, hfz12_2, hfz12_3, hfz12_4, hfz12_5, hfz12_6, hfz12_7, hfz12_8⟩ := blk9 BK453.out) | ((with_reducible refine gate_callee (f := 15) rfl ?_); refine goesL_ (some 11) rfl rfl Tryz.func15 kr_ rfl #[.agg #[.slice A0_0 l0_0.length c0_0, .int .i64 a0_1, .string a0_2, .string a0_3, .string a0_4, .string a0_5, .slice A0_6 l0_6.length c0_6, .slice A0_7 l0_7.length c0_7, .bool a0_8]] rfl rl_ ?_; (with_reducible refine (tolllaw07_cut.calls k _ _ l0_0 a0_1 a0_2 a0_3 a0_4 a0_5 _ _ l0_6 _ _ l0_7 a0_8 t454 t457 t458 t459 t460 t461 t462 t465 t468 _ ?side1 ?side2 ?side3 ?side4 ?side5 ?side6 A3.out).mono ?_); (case side1 => exact C_ (Kd.C_below HR0_0.out HB.out)); (case side2 => exact HC0_0.out); (case side3 => exact C_ (Kd.C_below HR0_6.out HB.out)); (case side4 => exact HC0_6.out); (case side5 => exact C_ (Kd.C_below HR0_7.out HB.out)); (case side6 => exact HC0_7.out); rintro e w13 ⟨v455, v463, v466, rfl, ho0, ho1, ho2, hb⟩; refine ⟨_, rfl, ?_⟩; have n0_ := am_ (Kd.R_lower ho0 (below_size (bel_ HB.out))); have n1_ := am_ (Kd.R_lower ho1 (below_size (bel_ HB.out))); have n2_ := am_ (Kd.R_lower ho2 (below_size (bel_ HB.out))); have n3_ := am_ (blk_below (g := gb453) (o := .cells #[.slice A0_0 l0_0.length c0_0, .int .i64 a0_1, .string a0_2, .string a0_3, .string a0_4, .string a0_5, .slice A0_6 l0_6.length c0_6, .slice A0_7 l0_7.length c0_7, .bool a0_8] 35 (0, 0)) (blk_ BK453.out) hb); have n4_ := am_ (below_step (bel_ HB.out) hb); clear BK453 HB; have HO456 := n0_; have HO464 := n1_; have HO467 := n2_; have BK453 := n3_; have HB := n4_; clear n0_ n1_ n2_ n3_ n4_; (try clear hb); (try clear hb2); (try clear hk); (try clear hi); (try clear ho0); (try clear ho1); (try clear ho2)) | ((with_reducible refine gate_callee (f := 22) rfl ?_); refine goesL_ (some 13) rfl rfl Tryz.func22 kr_ rfl #[.string a1] rfl rl_ ?_; (with_reducible refine (tolllaw01_Few.calls a1 t469 _ A4.out).mono ?_); rintro e w' ⟨rfl, ⟨nd, rfl⟩⟩; refine ⟨_, rfl, ?_⟩; (try (rw [drewN_self w13]; generalize hq_ : World.drewN w13 _ = w13; have n0_ : Aside0 (Kd.R k26 26 w13 w.heap.size (fun _ => True) v455 t454) := ⟨by rw [← hq_]; exact (R_ HO456.out)⟩; have n1_ : Aside0 (Kd.R k59 59 w13 w.heap.size (fun k_ => some k_ ≠ (v466 : Value).ownBlock) v463 t462) := ⟨by rw [← hq_]; exact (R_ HO464.out)⟩; have n2_ : Aside0 (Kd.R k59 59 w13 w.heap.size (fun k_ => some k_ ≠ (v463 : Value).ownBlock) v466 t465) := ⟨by rw [← hq_]; exact (R_ HO467.out)⟩; have n3_ : Aside0 (w13.heap[gb453]? = some (.cells #[.slice A0_0 l0_0.length c0_0, .int .i64 a0_1, .string a0_2, .string a0_3, .string a0_4, .string a0_5, .slice A0_6 l0_6.length c0_6, .slice A0_7 l0_7.length c0_7, .bool a0_8] 35 (0, 0))) := ⟨by rw [← hq_]; exact (blk_ BK453.out)⟩; have n4_ : Aside0 (Below w.heap.size w w13) := ⟨by rw [← hq_]; exact (bel_ HB.out)⟩; clear HO456 HO464 HO467 BK453 HB hq_; have HO456 := n0_; have HO464 := n1_; have HO467 := n2_; have BK453 := n3_; have HB := n4_; clear n0_ n1_ n2_ n3_ n4_)); obtain ⟨Ao14, co14, eo14⟩ := Kd.R_slice HO456.out; subst eo14; obtain ⟨hcz15_0, hcz15_1, hcz15_2, hcz15_3, hcz15_4, hcz15_5, hcz15_6, hcz15_7, hcz15_8, hfz15_0, hfz15_1, hfz15_2, hfz15_3, hfz15_4, hfz15_5, hfz15_6, hfz15_7, hfz15_8⟩ := blk9 BK453.out; obtain ⟨Ao16, co16, eo16⟩ := Kd.R_slice HO464.out; subst eo16; obtain ⟨Ao17, co17, eo17⟩ := Kd.R_slice HO467.out; subst eo17) | ((with_reducible refine gate_store (t := 35) (p := 2) rfl ?_); refine store_event (t := 35) (p := 2) (v := ?vo_w18) (w1 := (((((((((w13.setCell ⟨gb453, 0, none⟩ (.slice Ao14 t454.length co14)).setCell ⟨gb453, 1, none⟩ (.int .i64 t457)).setCell ⟨gb453, 2, none⟩ (.string t458)).setCell ⟨gb453, 3, none⟩ (.string t459)).setCell ⟨gb453, 4, none⟩ (.string t460)).setCell ⟨gb453, 5, none⟩ (.string t461)).setCell ⟨gb453, 6, none⟩ (.slice Ao16 t462.length co16)).setCell ⟨gb453, 7, none⟩ (.slice Ao17 t465.length co17)).setCell ⟨gb453, 8, none⟩ (.bool t468))) ?hg ?ho ?hn ?hr ?_; (case ho => rfl); (case hg => rfl); (case hn => rfl); (case hr => first | (go_simp; done) | (go_simp; rfl)); intro w18 hw; have n0_ : Aside0 (Kd.R k26 26 w18 w.heap.size (fun _ => True) (.slice Ao14 t454.length co14) t454) := ⟨(by rw [hw]; exact (by (with_reducible repeat (first | apply Kd.R_alloc | apply Kd.R_drewN | apply Kd.R_drew)); exact Kd.R_mono (Kd.R_far (p := ⟨gb453, 8, none⟩) (Kd.R_far (p := ⟨gb453, 7, none⟩) (Kd.R_far (p := ⟨gb453, 6, none⟩) (Kd.R_far (p := ⟨gb453, 5, none⟩) (Kd.R_far (p := ⟨gb453, 4, none⟩) (Kd.R_far (p := ⟨gb453, 3, none⟩) (Kd.R_far (p := ⟨gb453, 2, none⟩) (Kd.R_far (p := ⟨gb453, 1, none⟩) (Kd.R_far (p := ⟨gb453, 0, none⟩) (Kd.R_types HO456.out BK453.out (by decide)) (fun _ hk => hk.2) (.slice Ao14 t454.length co14)) (fun _ hk => hk.2) (.int .i64 t457)) (fun _ hk => hk.2) (.string t458)) (fun _ hk => hk.2) (.string t459)) (fun _ hk => hk.2) (.string t460)) (fun _ hk => hk.2) (.string t461)) (fun _ hk => hk.2) (.slice Ao16 t462.length co16)) (fun _ hk => hk.2) (.slice Ao17 t465.length co17)) (fun _ hk => hk.2) (.bool t468)) (fun _ hk => trivial)))⟩; have n1_ : Aside0 (Kd.R k59 59 w18 w.heap.size (fun k_ => some k_ ≠ (.slice Ao17 t465.length co17 : Value).ownBlock) (.slice Ao16 t462.length co16) t462) := ⟨(by rw [hw]; exact (by (with_reducible repeat (first | apply Kd.R_alloc | apply Kd.R_drewN | apply Kd.R_drew)); exact Kd.R_mono (Kd.R_far (p := ⟨gb453, 8, none⟩) (Kd.R_far (p := ⟨gb453, 7, none⟩) (Kd.R_far (p := ⟨gb453, 6, none⟩) (Kd.R_far (p := ⟨gb453, 5, none⟩) (Kd.R_far (p := ⟨gb453, 4, none⟩) (Kd.R_far (p := ⟨gb453, 3, none⟩) (Kd.R_far (p := ⟨gb453, 2, none⟩) (Kd.R_far (p := ⟨gb453, 1, none⟩) (Kd.R_far (p := ⟨gb453, 0, none⟩) (Kd.R_types HO464.out BK453.out (by decide)) (fun _ hk => hk.2) (.slice Ao14 t454.length co14)) (fun _ hk => hk.2) (.int .i64 t457)) (fun _ hk => hk.2) (.string t458)) (fun _ hk => hk.2) (.string t459)) (fun _ hk => hk.2) (.string t460)) (fun _ hk => hk.2) (.string t461)) (fun _ hk => hk.2) (.slice Ao16 t462.length co16)) (fun _ hk => hk.2) (.slice Ao17 t465.length co17)) (fun _ hk => hk.2) (.bool t468)) (fun _ hk => hk.1)))⟩; have n2_ : Aside0 (Kd.R k59 59 w18 w.heap.size (fun k_ => some k_ ≠ (.slice Ao16 t462.length co16 : Value).ownBlock) (.slice Ao17 t465.length co17) t465) := ⟨(by rw [hw]; exact (by (with_reducible repeat (first | apply Kd.R_alloc | apply Kd.R_drewN | apply Kd.R_drew)); exact Kd.R_mono (Kd.R_far (p := ⟨gb453, 8, none⟩) (Kd.R_far (p := ⟨gb453, 7, none⟩) (Kd.R_far (p := ⟨gb453, 6, none⟩) (Kd.R_far (p := ⟨gb453, 5, none⟩) (Kd.R_far (p := ⟨gb453, 4, none⟩) (Kd.R_far (p := ⟨gb453, 3, none⟩) (Kd.R_far (p := ⟨gb453, 2, none⟩) (Kd.R_far (p := ⟨gb453, 1, none⟩) (Kd.R_far (p := ⟨gb453, 0, none⟩) (Kd.R_types HO467.out BK453.out (by decide)) (fun _ hk => hk.2) (.slice Ao14 t454.length co14)) (fun _ hk => hk.2) (.int .i64 t457)) (fun _ hk => hk.2) (.string t458)) (fun _ hk => hk.2) (.string t459)) (fun _ hk => hk.2) (.string t460)) (fun _ hk => hk.2) (.string t461)) (fun _ hk => hk.2) (.slice Ao16 t462.length co16)) (fun _ hk => hk.2) (.slice Ao17 t465.length co17)) (fun _ hk => hk.2) (.bool t468)) (fun _ hk => hk.1)))⟩; have n3_ : Aside0 (w18.heap[gb453]? = some (.cells #[.slice Ao14 t454.length co14, .int .i64 t457, .string t458, .string t459, .string t460, .string t461, .slice Ao16 t462.length co16, .slice Ao17 t465.length co17, .bool t468] 35 (0, 0))) := ⟨(by rw [hw]; exact (by (with_reducible repeat (first | refine blk_drewN ?_ _ | refine blk_drew ?_ | refine blk_alloc ?_ _)); refine blk_put (cs := #[.slice Ao14 t454.length co14, .int .i64 t457, .string t458, .string t459, .string t460, .string t461, .slice Ao16 t462.length co16, .slice Ao17 t465.length co17, .bool a0_8]) ?_ 8 _ rfl; (with_reducible repeat (first | refine blk_drewN ?_ _ | refine blk_drew ?_ | refine blk_alloc ?_ _)); refine blk_put (cs := #[.slice Ao14 t454.length co14, .int .i64 t457, .string t458, .string t459, .string t460, .string t461, .slice Ao16 t462.length co16, .slice A0_7 l0_7.length c0_7, .bool a0_8]) ?_ 7 _ rfl; (with_reducible repeat (first | refine blk_drewN ?_ _ | refine blk_drew ?_ | refine blk_alloc ?_ _)); refine blk_put (cs := #[.slice Ao14 t454.length co14, .int .i64 t457, .string t458, .string t459, .string t460, .string t461, .slice A0_6 l0_6.length c0_6, .slice A0_7 l0_7.length c0_7, .bool a0_8]) ?_ 6 _ rfl; (with_reducible repeat (first | refine blk_drewN ?_ _ | refine blk_drew ?_ | refine blk_alloc ?_ _)); refine blk_put (cs := #[.slice Ao14 t454.length co14, .int .i64 t457, .string t458, .string t459, .string t460, .string a0_5, .slice A0_6 l0_6.length c0_6, .slice A0_7 l0_7.length c0_7, .bool a0_8]) ?_ 5 _ rfl; (with_reducible repeat (first | refine blk_drewN ?_ _ | refine blk_drew ?_ | refine blk_alloc ?_ _)); refine blk_put (cs := #[.slice Ao14 t454.length co14, .int .i64 t457, .string t458, .string t459, .string a0_4, .string a0_5, .slice A0_6 l0_6.length c0_6, .slice A0_7 l0_7.length c0_7, .bool a0_8]) ?_ 4 _ rfl; (with_reducible repeat (first | refine blk_drewN ?_ _ | refine blk_drew ?_ | refine blk_alloc ?_ _)); refine blk_put (cs := #[.slice Ao14 t454.length co14, .int .i64 t457, .string t458, .string a0_3, .string a0_4, .string a0_5, .slice A0_6 l0_6.length c0_6, .slice A0_7 l0_7.length c0_7, .bool a0_8]) ?_ 3 _ rfl; (with_reducible repeat (first | refine blk_drewN ?_ _ | refine blk_drew ?_ | refine blk_alloc ?_ _)); refine blk_put (cs := #[.slice Ao14 t454.length co14, .int .i64 t457, .string a0_2, .string a0_3, .string a0_4, .string a0_5, .slice A0_6 l0_6.length c0_6, .slice A0_7 l0_7.length c0_7, .bool a0_8]) ?_ 2 _ rfl; (with_reducible repeat (first | refine blk_drewN ?_ _ | refine blk_drew ?_ | refine blk_alloc ?_ _)); refine blk_put (cs := #[.slice Ao14 t454.length co14, .int .i64 a0_1, .string a0_2, .string a0_3, .string a0_4, .string a0_5, .slice A0_6 l0_6.length c0_6, .slice A0_7 l0_7.length c0_7, .bool a0_8]) ?_ 1 _ rfl; (with_reducible repeat (first | refine blk_drewN ?_ _ | refine blk_drew ?_ | refine blk_alloc ?_ _)); refine blk_put (cs := #[.slice A0_0 l0_0.length c0_0, .int .i64 a0_1, .string a0_2, .string a0_3, .string a0_4, .string a0_5, .slice A0_6 l0_6.length c0_6, .slice A0_7 l0_7.length c0_7, .bool a0_8]) ?_ 0 _ rfl; (with_reducible repeat (first | refine blk_drewN ?_ _ | refine blk_drew ?_ | refine blk_alloc ?_ _)); exact BK453.out))⟩; have n4_ : Aside0 (Below w.heap.size w w18) := ⟨(by rw [hw]; exact (bel_ HB.out))⟩; clear hw HO456 HO464 HO467 BK453 HB; have HO456 := n0_; have HO464 := n1_; have HO467 := n2_; have BK453 := n3_; have HB := n4_; clear n0_ n1_ n2_ n3_ n4_; obtain ⟨hcz19_0, hcz19_1, hcz19_2, hcz19_3, hcz19_4, hcz19_5, hcz19_6, hcz19_7, hcz19_8, hfz19_0, hfz19_1, hfz19_2, hfz19_3, hfz19_4, hfz19_5, hfz19_6, hfz19_7, hfz19_8⟩ := blk9 BK453.out) | ((with_reducible refine gate_callee (f := 17) rfl ?_); refine goesL_ (some 21) rfl rfl Tryz.func17 kr_ rfl #[.slice Ao14 t454.length co14, .agg #[.int .i64 t457, .string t458], .agg #[.string t459, .string t460, .string t461, .slice Ao16 t462.length co16, .slice Ao17 t465.length co17]] rfl rl_ ?_; (with_reducible refine (filter_Do.calls k _ _ t454 t457 t458 t459 t460 t461 (fun k_ => some k_ = (.slice Ao16 t462.length co16 : Value).ownBlock) _ _ t462 (fun k_ => some k_ = (.slice Ao17 t465.length co17 : Value).ownBlock) _ _ t465 t470 t471 t472 t473 t476 t479 _ ?side1 ?side2 ?side3 ?side4 A5.out).mono ?_); (case side1 => exact C_ (Kd.R_reads' HO456.out).2.2); (case side2 => exact (Kd.R_reads' HO456.out).2.1); (case side3 => exact Kd.R_V (Kd.R_tight rfl (Kd.R_types (Kd.R_apart' (HO464.out) (Kd.R_typed HO456.out) (by decide)) BK453.out (by decide)))); (case side4 => exact Kd.R_V (Kd.R_tight rfl (Kd.R_types (Kd.R_apart' (HO467.out) (Kd.R_typed HO456.out) (by decide)) BK453.out (by decide)))); rintro e w20 ⟨v474, v477, rfl, ho0, ho1, hb⟩; refine ⟨_, rfl, ?_⟩; have n0_ := am_ (Kd.R_below (R_ HO456.out) hb); have n1_ := am_ (Kd.R_below (R_ HO464.out) hb); have n2_ := am_ (Kd.R_below (R_ HO467.out) hb); have n3_ := am_ (Kd.V_lower (Kd.V_mono (ok' := fun k_ => some k_ ≠ (.slice Ao14 t454.length co14 : Value).ownBlock ∧ k_ ≠ gb453) ho0 (fun k_ hk_ => ⟨Or.elim hk_ (fun hs_ => Or.elim hs_ (fun hs_ => ((Kd.R_types (Kd.R_apart' (HO464.out) (Kd.R_typed HO456.out) (by decide)) BK453.out (by decide)).1 k_ hs_.symm).1.2) (fun hs_ => ((Kd.R_types (Kd.R_apart' (HO467.out) (Kd.R_typed HO456.out) (by decide)) BK453.out (by decide)).1 k_ hs_.symm).1.2)) (fun hn_ => (Kd.fresh' (Kd.R_lt (R_ HO456.out)) k_ hn_)), Or.elim hk_ (fun hs_ => Or.elim hs_ (fun hs_ => ((Kd.R_types (Kd.R_apart' (HO464.out) (Kd.R_typed HO456.out) (by decide)) BK453.out (by decide)).1 k_ hs_.symm).2) (fun hs_ => ((Kd.R_types (Kd.R_apart' (HO467.out) (Kd.R_typed HO456.out) (by decide)) BK453.out (by decide)).1 k_ hs_.symm).2)) (fun hn_ => (Kd.freshB (g := gb453) (o := .cells #[.slice Ao14 t454.length co14, .int .i64 t457, .string t458, .string t459, .string t460, .string t461, .slice Ao16 t462.length co16, .slice Ao17 t465.length co17, .bool t468] 35 (0, 0)) (blk_ BK453.out) k_ hn_))⟩)) (below_size (bel_ HB.out))); have n4_ := am_ (Kd.V_lower (Kd.V_mono (ok' := fun k_ => some k_ ≠ (.slice Ao14 t454.length co14 : Value).ownBlock ∧ k_ ≠ gb453) ho1 (fun k_ hk_ => ⟨Or.elim hk_ (fun hs_ => Or.elim hs_ (fun hs_ => ((Kd.R_types (Kd.R_apart' (HO464.out) (Kd.R_typed HO456.out) (by decide)) BK453.out (by decide)).1 k_ hs_.symm).1.2) (fun hs_ => ((Kd.R_types (Kd.R_apart' (HO467.out) (Kd.R_typed HO456.out) (by decide)) BK453.out (by decide)).1 k_ hs_.symm).1.2)) (fun hn_ => (Kd.fresh' (Kd.R_lt (R_ HO456.out)) k_ hn_)), Or.elim hk_ (fun hs_ => Or.elim hs_ (fun hs_ => ((Kd.R_types (Kd.R_apart' (HO464.out) (Kd.R_typed HO456.out) (by decide)) BK453.out (by decide)).1 k_ hs_.symm).2) (fun hs_ => ((Kd.R_types (Kd.R_apart' (HO467.out) (Kd.R_typed HO456.out) (by decide)) BK453.out (by decide)).1 k_ hs_.symm).2)) (fun hn_ => (Kd.freshB (g := gb453) (o := .cells #[.slice Ao14 t454.length co14, .int .i64 t457, .string t458, .string t459, .string t460, .string t461, .slice Ao16 t462.length co16, .slice Ao17 t465.length co17, .bool t468] 35 (0, 0)) (blk_ BK453.out) k_ hn_))⟩)) (below_size (bel_ HB.out))); have n5_ := am_ (blk_below (g := gb453) (o := .cells #[.slice Ao14 t454.length co14, .int .i64 t457, .string t458, .string t459, .string t460, .string t461, .slice Ao16 t462.length co16, .slice Ao17 t465.length co17, .bool t468] 35 (0, 0)) (blk_ BK453.out) hb); have n6_ := am_ (below_step (bel_ HB.out) hb); clear HO456 HO464 HO467 BK453 HB; have HO456 := n0_; have HO464 := n1_; have HO467 := n2_; have HO475 := n3_; have HO478 := n4_; have BK453 := n5_; have HB := n6_; clear n0_ n1_ n2_ n3_ n4_ n5_ n6_; (try clear hb); (try clear hb2); (try clear hk); (try clear hi); (try clear ho0); (try clear ho1)) | ((with_reducible refine gate_dst (N := 5) rfl ?_); refine box_event ?hg (N := 5) ?hd (cs := #[.string (⟨#[]⟩ : ByteArray), .string (⟨#[]⟩ : ByteArray), .string (⟨#[]⟩ : ByteArray), .slice none 0 0, .slice none 0 0]) (t := 33) ?hr ?_; (case hd => rfl); (case hg => rfl); (case hr => first | (go_simp; done) | (go_simp; rfl)); intro gb480 hg w21 hbox hb; have n0_ := am_ (Kd.R_below (R_ HO456.out) hb); have n1_ := am_ (Kd.R_below (R_ HO464.out) hb); have n2_ := am_ (Kd.R_below (R_ HO467.out) hb); have n3_ := am_ (Kd.V_below (Kd.V_elderB (by (with_reducible repeat (first | apply Kd.V_alloc | apply Kd.V_drewN | apply Kd.V_drew)); exact HO475.out) gb480 (Nat.le_of_eq hg.symm)) hb); have n4_ := am_ (Kd.V_below (Kd.V_elderB (by (with_reducible repeat (first | apply Kd.V_alloc | apply Kd.V_drewN | apply Kd.V_drew)); exact HO478.out) gb480 (Nat.le_of_eq hg.symm)) hb); have n5_ := am_ (blk_below (g := gb453) (o := .cells #[.slice Ao14 t454.length co14, .int .i64 t457, .string t458, .string t459, .string t460, .string t461, .slice Ao16 t462.length co16, .slice Ao17 t465.length co17, .bool t468] 35 (0, 0)) (blk_ BK453.out) hb); have n6_ := am_ (below_step (bel_ HB.out) hb); have n7_ := am_ (hbox); have n8_ := am_ ((by rw [hg]; exact (below_size (bel_ HB.out)) : w.heap.size ≤ gb480)); have n9_ := am_ ((by rw [hg]; exact (below_size (bel_ HB.out)) : w.heap.size ≤ gb480)); have n10_ := am_ ((by rw [hg]; exact Nat.ne_of_lt (blk_lt (g := gb453) (o := .cells #[.slice Ao14 t454.length co14, .int .i64 t457, .string t458, .string t459, .string t460, .string t461, .slice Ao16 t462.length co16, .slice Ao17 t465.length co17, .bool t468] 35 (0, 0)) (blk_ BK453.out)) : gb453 ≠ gb480)); have n11_ := am_ ((by rw [hg]; exact Nat.ne_of_gt (blk_lt (g := gb453) (o := .cells #[.slice Ao14 t454.length co14, .int .i64 t457, .string t458, .string t459, .string t460, .string t461, .slice Ao16 t462.length co16, .slice Ao17 t465.length co17, .bool t468] 35 (0, 0)) (blk_ BK453.out)) : gb480 ≠ gb453)); clear HO456 HO464 HO467 HO475 HO478 BK453 HB; have HO456 := n0_; have HO464 := n1_; have HO467 := n2_; have HO475 := n3_; have HO478 := n4_; have BK453 := n5_; have HB := n6_; have BK480 := n7_; have GW480 := n8_; have GE480 := n9_; have NB453_480 := n10_; have NB480_453 := n11_; clear n0_ n1_ n2_ n3_ n4_ n5_ n6_ n7_ n8_ n9_ n10_ n11_ hb hbox hg; have hnb22 := NB480_453.out; have hnc22 := NB453_480.out; obtain ⟨hcz23_0, hcz23_1, hcz23_2, hcz23_3, hcz23_4, hfz23_0, hfz23_1, hfz23_2, hfz23_3, hfz23_4⟩ := blk5 BK480.out; obtain ⟨Ao24, co24, eo24⟩ := Kd.V_slice HO475.out; subst eo24; obtain ⟨Ao25, co25, eo25⟩ := Kd.V_slice HO478.out; subst eo25) | ((with_reducible refine gate_store (t := 33) (p := 5) rfl ?_); refine store_event (t := 33) (p := 5) (v := ?vo_w26) (w1 := (((((w21.setCell ⟨gb480, 0, none⟩ (.string t470)).setCell ⟨gb480, 1, none⟩ (.string t471)).setCell ⟨gb480, 2, none⟩ (.string t472)).setCell ⟨gb480, 3, none⟩ (.slice Ao24 t473.length co24)).setCell ⟨gb480, 4, none⟩ (.slice Ao25 t476.length co25))) ?hg ?ho ?hn ?hr ?_; (case ho => rfl); (case hg => rfl); (case hn => rfl); (case hr => first | (go_simp; done) | (go_simp; rfl)); intro w26 hw; have n0_ : Aside0 (Kd.R k26 26 w26 w.heap.size (fun _ => True) (.slice Ao14 t454.length co14) t454) := ⟨(by rw [hw]; exact (by (with_reducible repeat (first | apply Kd.R_alloc | apply Kd.R_drewN | apply Kd.R_drew)); exact Kd.R_mono (Kd.R_far (p := ⟨gb480, 4, none⟩) (Kd.R_far (p := ⟨gb480, 3, none⟩) (Kd.R_far (p := ⟨gb480, 2, none⟩) (Kd.R_far (p := ⟨gb480, 1, none⟩) (Kd.R_far (p := ⟨gb480, 0, none⟩) (Kd.R_types HO456.out BK480.out (by decide)) (fun _ hk => hk.2) (.string t470)) (fun _ hk => hk.2) (.string t471)) (fun _ hk => hk.2) (.string t472)) (fun _ hk => hk.2) (.slice Ao24 t473.length co24)) (fun _ hk => hk.2) (.slice Ao25 t476.length co25)) (fun _ hk => trivial)))⟩; have n1_ : Aside0 (Kd.R k59 59 w26 w.heap.size (fun k_ => some k_ ≠ (.slice Ao17 t465.length co17 : Value).ownBlock) (.slice Ao16 t462.length co16) t462) := ⟨(by rw [hw]; exact (by (with_reducible repeat (first | apply Kd.R_alloc | apply Kd.R_drewN | apply Kd.R_drew)); exact Kd.R_mono (Kd.R_far (p := ⟨gb480, 4, none⟩) (Kd.R_far (p := ⟨gb480, 3, none⟩) (Kd.R_far (p := ⟨gb480, 2, none⟩) (Kd.R_far (p := ⟨gb480, 1, none⟩) (Kd.R_far (p := ⟨gb480, 0, none⟩) (Kd.R_types HO464.out BK480.out (by decide)) (fun _ hk => hk.2) (.string t470)) (fun _ hk => hk.2) (.string t471)) (fun _ hk => hk.2) (.string t472)) (fun _ hk => hk.2) (.slice Ao24 t473.length co24)) (fun _ hk => hk.2) (.slice Ao25 t476.length co25)) (fun _ hk => hk.1)))⟩; have n2_ : Aside0 (Kd.R k59 59 w26 w.heap.size (fun k_ => some k_ ≠ (.slice Ao16 t462.length co16 : Value).ownBlock) (.slice Ao17 t465.length co17) t465) := ⟨(by rw [hw]; exact (by (with_reducible repeat (first | apply Kd.R_alloc | apply Kd.R_drewN | apply Kd.R_drew)); exact Kd.R_mono (Kd.R_far (p := ⟨gb480, 4, none⟩) (Kd.R_far (p := ⟨gb480, 3, none⟩) (Kd.R_far (p := ⟨gb480, 2, none⟩) (Kd.R_far (p := ⟨gb480, 1, none⟩) (Kd.R_far (p := ⟨gb480, 0, none⟩) (Kd.R_types HO467.out BK480.out (by decide)) (fun _ hk => hk.2) (.string t470)) (fun _ hk => hk.2) (.string t471)) (fun _ hk => hk.2) (.string t472)) (fun _ hk => hk.2) (.slice Ao24 t473.length co24)) (fun _ hk => hk.2) (.slice Ao25 t476.length co25)) (fun _ hk => hk.1)))⟩; have n3_ : Aside0 (Kd.V k59 59 w26 w.heap.size (fun k_ => some k_ ≠ (.slice Ao14 t454.length co14 : Value).ownBlock ∧ k_ ≠ gb453 ∧ k_ ≠ gb480) (.slice Ao24 t473.length co24) t473) := ⟨(by rw [hw]; exact (by (with_reducible repeat (first | apply Kd.V_alloc | apply Kd.V_drewN | apply Kd.V_drew)); exact Kd.V_mono (Kd.V_far (p := ⟨gb480, 4, none⟩) (Kd.V_far (p := ⟨gb480, 3, none⟩) (Kd.V_far (p := ⟨gb480, 2, none⟩) (Kd.V_far (p := ⟨gb480, 1, none⟩) (Kd.V_far (p := ⟨gb480, 0, none⟩) (Kd.V_mono HO475.out (fun k_ hk => (⟨hk, hk.2⟩ : _ ∧ k_ ≠ gb480))) (fun _ hk => hk.2) (.string t470)) (fun _ hk => hk.2) (.string t471)) (fun _ hk => hk.2) (.string t472)) (fun _ hk => hk.2) (.slice Ao24 t473.length co24)) (fun _ hk => hk.2) (.slice Ao25 t476.length co25)) (fun _ hk => ⟨hk.1.1.1, ⟨hk.1.1.2, hk.1.2⟩⟩)))⟩; have n4_ : Aside0 (Kd.V k59 59 w26 w.heap.size (fun k_ => some k_ ≠ (.slice Ao14 t454.length co14 : Value).ownBlock ∧ k_ ≠ gb453 ∧ k_ ≠ gb480) (.slice Ao25 t476.length co25) t476) := ⟨(by rw [hw]; exact (by (with_reducible repeat (first | apply Kd.V_alloc | apply Kd.V_drewN | apply Kd.V_drew)); exact Kd.V_mono (Kd.V_far (p := ⟨gb480, 4, none⟩) (Kd.V_far (p := ⟨gb480, 3, none⟩) (Kd.V_far (p := ⟨gb480, 2, none⟩) (Kd.V_far (p := ⟨gb480, 1, none⟩) (Kd.V_far (p := ⟨gb480, 0, none⟩) (Kd.V_mono HO478.out (fun k_ hk => (⟨hk, hk.2⟩ : _ ∧ k_ ≠ gb480))) (fun _ hk => hk.2) (.string t470)) (fun _ hk => hk.2) (.string t471)) (fun _ hk => hk.2) (.string t472)) (fun _ hk => hk.2) (.slice Ao24 t473.length co24)) (fun _ hk => hk.2) (.slice Ao25 t476.length co25)) (fun _ hk => ⟨hk.1.1.1, ⟨hk.1.1.2, hk.1.2⟩⟩)))⟩; have n5_ : Aside0 (w26.heap[gb453]? = some (.cells #[.slice Ao14 t454.length co14, .int .i64 t457, .string t458, .string t459, .string t460, .string t461, .slice Ao16 t462.length co16, .slice Ao17 t465.length co17, .bool t468] 35 (0, 0))) := ⟨(by rw [hw]; exact (by (with_reducible repeat (first | refine blk_drewN ?_ _ | refine blk_drew ?_ | refine blk_alloc ?_ _)); refine blk_far ?_ NB453_480.out _; (with_reducible repeat (first | refine blk_drewN ?_ _ | refine blk_drew ?_ | refine blk_alloc ?_ _)); refine blk_far ?_ NB453_480.out _; (with_reducible repeat (first | refine blk_drewN ?_ _ | refine blk_drew ?_ | refine blk_alloc ?_ _)); refine blk_far ?_ NB453_480.out _; (with_reducible repeat (first | refine blk_drewN ?_ _ | refine blk_drew ?_ | refine blk_alloc ?_ _)); refine blk_far ?_ NB453_480.out _; (with_reducible repeat (first | refine blk_drewN ?_ _ | refine blk_drew ?_ | refine blk_alloc ?_ _)); refine blk_far ?_ NB453_480.out _; (with_reducible repeat (first | refine blk_drewN ?_ _ | refine blk_drew ?_ | refine blk_alloc ?_ _)); exact BK453.out))⟩; have n6_ : Aside0 (w26.heap[gb480]? = some (.cells #[.string t470, .string t471, .string t472, .slice Ao24 t473.length co24, .slice Ao25 t476.length co25] 33 (0, 0))) := ⟨(by rw [hw]; exact (by (with_reducible repeat (first | refine blk_drewN ?_ _ | refine blk_drew ?_ | refine blk_alloc ?_ _)); refine blk_put (cs := #[.string t470, .string t471, .string t472, .slice Ao24 t473.length co24, .slice none 0 0]) ?_ 4 _ rfl; (with_reducible repeat (first | refine blk_drewN ?_ _ | refine blk_drew ?_ | refine blk_alloc ?_ _)); refine blk_put (cs := #[.string t470, .string t471, .string t472, .slice none 0 0, .slice none 0 0]) ?_ 3 _ rfl; (with_reducible repeat (first | refine blk_drewN ?_ _ | refine blk_drew ?_ | refine blk_alloc ?_ _)); refine blk_put (cs := #[.string t470, .string t471, .string (⟨#[]⟩ : ByteArray), .slice none 0 0, .slice none 0 0]) ?_ 2 _ rfl; (with_reducible repeat (first | refine blk_drewN ?_ _ | refine blk_drew ?_ | refine blk_alloc ?_ _)); refine blk_put (cs := #[.string t470, .string (⟨#[]⟩ : ByteArray), .string (⟨#[]⟩ : ByteArray), .slice none 0 0, .slice none 0 0]) ?_ 1 _ rfl; (with_reducible repeat (first | refine blk_drewN ?_ _ | refine blk_drew ?_ | refine blk_alloc ?_ _)); refine blk_put (cs := #[.string (⟨#[]⟩ : ByteArray), .string (⟨#[]⟩ : ByteArray), .string (⟨#[]⟩ : ByteArray), .slice none 0 0, .slice none 0 0]) ?_ 0 _ rfl; (with_reducible repeat (first | refine blk_drewN ?_ _ | refine blk_drew ?_ | refine blk_alloc ?_ _)); exact BK480.out))⟩; have n7_ : Aside0 (Below w.heap.size w w26) := ⟨(by rw [hw]; exact (bel_ HB.out))⟩; clear hw HO456 HO464 HO467 HO475 HO478 BK453 BK480 HB; have HO456 := n0_; have HO464 := n1_; have HO467 := n2_; have HO475 := n3_; have HO478 := n4_; have BK453 := n5_; have BK480 := n6_; have HB := n7_; clear n0_ n1_ n2_ n3_ n4_ n5_ n6_ n7_; obtain ⟨hcz27_0, hcz27_1, hcz27_2, hcz27_3, hcz27_4, hcz27_5, hcz27_6, hcz27_7, hcz27_8, hfz27_0, hfz27_1, hfz27_2, hfz27_3, hfz27_4, hfz27_5, hfz27_6, hfz27_7, hfz27_8⟩ := blk9 BK453.out) | ((with_reducible refine gate_callee (f := 17) rfl ?_); refine goesL_ (some 37) rfl rfl Tryz.func17 kr_ rfl #[.slice none 0 0, .agg #[.int .i64 t457, .string t458], .agg #[.string t459, .string t460, .string t461, .slice Ao16 t462.length co16, .slice Ao17 t465.length co17]] rfl rl_ ?_; (refine (filter_Do.calls k _ _ ([] : List (S26)) t457 t458 t459 t460 t461 (fun k_ => some k_ = (.slice Ao16 t462.length co16 : Value).ownBlock) _ _ t462 (fun k_ => some k_ = (.slice Ao17 t465.length co17 : Value).ownBlock) _ _ t465 t483 t484 t485 t486 t489 t492 _ ?side1 ?side2 ?side3 ?side4 A7.out).mono ?_); (case side1 => exact Kd.C_nil _ _); (case side2 => exact Nat.le_refl _); (case side3 => exact Kd.R_V (Kd.R_tight rfl (Kd.R_types (Kd.R_types (Kd.R_apart' (HO464.out) (Kd.R_typed HO456.out) (by decide)) BK453.out (by decide)) BK480.out (by decide)))); (case side4 => exact Kd.R_V (Kd.R_tight rfl (Kd.R_types (Kd.R_types (Kd.R_apart' (HO467.out) (Kd.R_typed HO456.out) (by decide)) BK453.out (by decide)) BK480.out (by decide)))); rintro e w28 ⟨v487, v490, rfl, ho0, ho1, hb⟩; refine ⟨_, rfl, ?_⟩; have n0_ := am_ (Kd.R_below (R_ HO456.out) hb); have n1_ := am_ (Kd.R_below (R_ HO464.out) hb); have n2_ := am_ (Kd.R_below (R_ HO467.out) hb); have n3_ := am_ (Kd.V_below (by (with_reducible repeat (first | apply Kd.V_alloc | apply Kd.V_drewN | apply Kd.V_drew)); exact HO475.out) hb); have n4_ := am_ (Kd.V_below (by (with_reducible repeat (first | apply Kd.V_alloc | apply Kd.V_drewN | apply Kd.V_drew)); exact HO478.out) hb); have n5_ := am_ (Kd.V_lower (Kd.V_mono (ok' := fun k_ => some k_ ≠ (.slice Ao14 t454.length co14 : Value).ownBlock ∧ k_ ≠ gb453 ∧ k_ ≠ gb480) ho0 (fun k_ hk_ => ⟨Or.elim hk_ (fun hs_ => Or.elim hs_ (fun hs_ => ((Kd.R_types (Kd.R_types (Kd.R_apart' (HO464.out) (Kd.R_typed HO456.out) (by decide)) BK453.out (by decide)) BK480.out (by decide)).1 k_ hs_.symm).1.1.2) (fun hs_ => ((Kd.R_types (Kd.R_types (Kd.R_apart' (HO467.out) (Kd.R_typed HO456.out) (by decide)) BK453.out (by decide)) BK480.out (by decide)).1 k_ hs_.symm).1.1.2)) (fun hn_ => (Kd.fresh' (Kd.R_lt (R_ HO456.out)) k_ hn_)), Or.elim hk_ (fun hs_ => Or.elim hs_ (fun hs_ => ((Kd.R_types (Kd.R_types (Kd.R_apart' (HO464.out) (Kd.R_typed HO456.out) (by decide)) BK453.out (by decide)) BK480.out (by decide)).1 k_ hs_.symm).1.2) (fun hs_ => ((Kd.R_types (Kd.R_types (Kd.R_apart' (HO467.out) (Kd.R_typed HO456.out) (by decide)) BK453.out (by decide)) BK480.out (by decide)).1 k_ hs_.symm).1.2)) (fun hn_ => (Kd.freshB (g := gb453) (o := .cells #[.slice Ao14 t454.length co14, .int .i64 t457, .string t458, .string t459, .string t460, .string t461, .slice Ao16 t462.length co16, .slice Ao17 t465.length co17, .bool t468] 35 (0, 0)) (blk_ BK453.out) k_ hn_)), Or.elim hk_ (fun hs_ => Or.elim hs_ (fun hs_ => ((Kd.R_types (Kd.R_types (Kd.R_apart' (HO464.out) (Kd.R_typed HO456.out) (by decide)) BK453.out (by decide)) BK480.out (by decide)).1 k_ hs_.symm).2) (fun hs_ => ((Kd.R_types (Kd.R_types (Kd.R_apart' (HO467.out) (Kd.R_typed HO456.out) (by decide)) BK453.out (by decide)) BK480.out (by decide)).1 k_ hs_.symm).2)) (fun hn_ => (Kd.freshB (g := gb480) (o := .cells #[.string t470, .string t471, .string t472, .slice Ao24 t473.length co24, .slice Ao25 t476.length co25] 33 (0, 0)) (blk_ BK480.out) k_ hn_))⟩)) (below_size (bel_ HB.out))); have n6_ := am_ (Kd.V_lower (Kd.V_mono (ok' := fun k_ => some k_ ≠ (.slice Ao14 t454.length co14 : Value).ownBlock ∧ k_ ≠ gb453 ∧ k_ ≠ gb480) ho1 (fun k_ hk_ => ⟨Or.elim hk_ (fun hs_ => Or.elim hs_ (fun hs_ => ((Kd.R_types (Kd.R_types (Kd.R_apart' (HO464.out) (Kd.R_typed HO456.out) (by decide)) BK453.out (by decide)) BK480.out (by decide)).1 k_ hs_.symm).1.1.2) (fun hs_ => ((Kd.R_types (Kd.R_types (Kd.R_apart' (HO467.out) (Kd.R_typed HO456.out) (by decide)) BK453.out (by decide)) BK480.out (by decide)).1 k_ hs_.symm).1.1.2)) (fun hn_ => (Kd.fresh' (Kd.R_lt (R_ HO456.out)) k_ hn_)), Or.elim hk_ (fun hs_ => Or.elim hs_ (fun hs_ => ((Kd.R_types (Kd.R_types (Kd.R_apart' (HO464.out) (Kd.R_typed HO456.out) (by decide)) BK453.out (by decide)) BK480.out (by decide)).1 k_ hs_.symm).1.2) (fun hs_ => ((Kd.R_types (Kd.R_types (Kd.R_apart' (HO467.out) (Kd.R_typed HO456.out) (by decide)) BK453.out (by decide)) BK480.out (by decide)).1 k_ hs_.symm).1.2)) (fun hn_ => (Kd.freshB (g := gb453) (o := .cells #[.slice Ao14 t454.length co14, .int .i64 t457, .string t458, .string t459, .string t460, .string t461, .slice Ao16 t462.length co16, .slice Ao17 t465.length co17, .bool t468] 35 (0, 0)) (blk_ BK453.out) k_ hn_)), Or.elim hk_ (fun hs_ => Or.elim hs_ (fun hs_ => ((Kd.R_types (Kd.R_types (Kd.R_apart' (HO464.out) (Kd.R_typed HO456.out) (by decide)) BK453.out (by decide)) BK480.out (by decide)).1 k_ hs_.symm).2) (fun hs_ => ((Kd.R_types (Kd.R_types (Kd.R_apart' (HO467.out) (Kd.R_typed HO456.out) (by decide)) BK453.out (by decide)) BK480.out (by decide)).1 k_ hs_.symm).2)) (fun hn_ => (Kd.freshB (g := gb480) (o := .cells #[.string t470, .string t471, .string t472, .slice Ao24 t473.length co24, .slice Ao25 t476.length co25] 33 (0, 0)) (blk_ BK480.out) k_ hn_))⟩)) (below_size (bel_ HB.out))); have n7_ := am_ (blk_below (g := gb453) (o := .cells #[.slice Ao14 t454.length co14, .int .i64 t457, .string t458, .string t459, .string t460, .string t461, .slice Ao16 t462.length co16, .slice Ao17 t465.length co17, .bool t468] 35 (0, 0)) (blk_ BK453.out) hb); have n8_ := am_ (blk_below (g := gb480) (o := .cells #[.string t470, .string t471, .string t472, .slice Ao24 t473.length co24, .slice Ao25 t476.length co25] 33 (0, 0)) (blk_ BK480.out) hb); have n9_ := am_ (below_step (bel_ HB.out) hb); clear HO456 HO464 HO467 HO475 HO478 BK453 BK480 HB; have HO456 := n0_; have HO464 := n1_; have HO467 := n2_; have HO475 := n3_; have HO478 := n4_; have HO488 := n5_; have HO491 := n6_; have BK453 := n7_; have BK480 := n8_; have HB := n9_; clear n0_ n1_ n2_ n3_ n4_ n5_ n6_ n7_ n8_ n9_; (try clear hb); (try clear hb2); (try clear hk); (try clear hi); (try clear ho0); (try clear ho1)) | ((with_reducible refine gate_dst (N := 7) rfl ?_); refine box_event ?hg (N := 7) ?hd (cs := #[.string (⟨#[]⟩ : ByteArray), .string (⟨#[]⟩ : ByteArray), .string (⟨#[]⟩ : ByteArray), .slice none 0 0, .slice none 0 0]) (t := 33) ?hr ?_; (case hd => rfl); (case hg => rfl); (case hr => first | (go_simp; done) | (go_simp; rfl)); intro gb493 hg w29 hbox hb; have n0_ := am_ (Kd.R_below (R_ HO456.out) hb); have n1_ := am_ (Kd.R_below (R_ HO464.out) hb); have n2_ := am_ (Kd.R_below (R_ HO467.out) hb); have n3_ := am_ (Kd.V_below (Kd.V_elderB (by (with_reducible repeat (first | apply Kd.V_alloc | apply Kd.V_drewN | apply Kd.V_drew)); exact HO475.out) gb493 (Nat.le_of_eq hg.symm)) hb); have n4_ := am_ (Kd.V_below (Kd.V_elderB (by (with_reducible repeat (first | apply Kd.V_alloc | apply Kd.V_drewN | apply Kd.V_drew)); exact HO478.out) gb493 (Nat.le_of_eq hg.symm)) hb); have n5_ := am_ (Kd.V_below (Kd.V_elderB (by (with_reducible repeat (first | apply Kd.V_alloc | apply Kd.V_drewN | apply Kd.V_drew)); exact HO488.out) gb493 (Nat.le_of_eq hg.symm)) hb); have n6_ := am_ (Kd.V_below (Kd.V_elderB (by (with_reducible repeat (first | apply Kd.V_alloc | apply Kd.V_drewN | apply Kd.V_drew)); exact HO491.out) gb493 (Nat.le_of_eq hg.symm)) hb); have n7_ := am_ (blk_below (g := gb453) (o := .cells #[.slice Ao14 t454.length co14, .int .i64 t457, .string t458, .string t459, .string t460, .string t461, .slice Ao16 t462.length co16, .slice Ao17 t465.length co17, .bool t468] 35 (0, 0)) (blk_ BK453.out) hb); have n8_ := am_ (blk_below (g := gb480) (o := .cells #[.string t470, .string t471, .string t472, .slice Ao24 t473.length co24, .slice Ao25 t476.length co25] 33 (0, 0)) (blk_ BK480.out) hb); have n9_ := am_ (below_step (bel_ HB.out) hb); have n10_ := am_ (hbox); have n11_ := am_ ((by rw [hg]; exact (below_size (bel_ HB.out)) : w.heap.size ≤ gb493)); have n12_ := am_ ((by rw [hg]; exact (below_size (bel_ HB.out)) : w.heap.size ≤ gb493)); have n13_ := am_ ((by rw [hg]; exact Nat.ne_of_lt (blk_lt (g := gb453) (o := .cells #[.slice Ao14 t454.length co14, .int .i64 t457, .string t458, .string t459, .string t460, .string t461, .slice Ao16 t462.length co16, .slice Ao17 t465.length co17, .bool t468] 35 (0, 0)) (blk_ BK453.out)) : gb453 ≠ gb493)); have n14_ := am_ ((by rw [hg]; exact Nat.ne_of_gt (blk_lt (g := gb453) (o := .cells #[.slice Ao14 t454.length co14, .int .i64 t457, .string t458, .string t459, .string t460, .string t461, .slice Ao16 t462.length co16, .slice Ao17 t465.length co17, .bool t468] 35 (0, 0)) (blk_ BK453.out)) : gb493 ≠ gb453)); have n15_ := am_ ((by rw [hg]; exact Nat.ne_of_lt (blk_lt (g := gb480) (o := .cells #[.string t470, .string t471, .string t472, .slice Ao24 t473.length co24, .slice Ao25 t476.length co25] 33 (0, 0)) (blk_ BK480.out)) : gb480 ≠ gb493)); have n16_ := am_ ((by rw [hg]; exact Nat.ne_of_gt (blk_lt (g := gb480) (o := .cells #[.string t470, .string t471, .string t472, .slice Ao24 t473.length co24, .slice Ao25 t476.length co25] 33 (0, 0)) (blk_ BK480.out)) : gb493 ≠ gb480)); clear HO456 HO464 HO467 HO475 HO478 HO488 HO491 BK453 BK480 HB; have HO456 := n0_; have HO464 := n1_; have HO467 := n2_; have HO475 := n3_; have HO478 := n4_; have HO488 := n5_; have HO491 := n6_; have BK453 := n7_; have BK480 := n8_; have HB := n9_; have BK493 := n10_; have GW493 := n11_; have GE493 := n12_; have NB453_493 := n13_; have NB493_453 := n14_; have NB480_493 := n15_; have NB493_480 := n16_; clear n0_ n1_ n2_ n3_ n4_ n5_ n6_ n7_ n8_ n9_ n10_ n11_ n12_ n13_ n14_ n15_ n16_ hb hbox hg; have hnb30 := NB493_453.out; have hnc30 := NB453_493.out; have hnb31 := NB493_480.out; have hnc31 := NB480_493.out; obtain ⟨hcz32_0, hcz32_1, hcz32_2, hcz32_3, hcz32_4, hfz32_0, hfz32_1, hfz32_2, hfz32_3, hfz32_4⟩ := blk5 BK493.out; obtain ⟨Ao33, co33, eo33⟩ := Kd.V_slice HO488.out; subst eo33; obtain ⟨Ao34, co34, eo34⟩ := Kd.V_slice HO491.out; subst eo34; obtain ⟨hcz35_0, hcz35_1, hcz35_2, hcz35_3, hcz35_4, hcz35_5, hcz35_6, hcz35_7, hcz35_8, hfz35_0, hfz35_1, hfz35_2, hfz35_3, hfz35_4, hfz35_5, hfz35_6, hfz35_7, hfz35_8⟩ := blk9 BK453.out) | (go_at_call 14; (with_reducible refine (tolllaw07_awake.calls k  t494 _ (gm_ HGL.out (bel_ HB.out)) A10.out).mono ?_); rintro e w36 ⟨rfl, hb⟩; have n0_ := am_ (Kd.R_below (by (with_reducible repeat (first | apply Kd.R_alloc | apply Kd.R_drewN | apply Kd.R_drew)); exact (Kd.R_mono (Kd.R_far (p := ⟨gb493, 4, none⟩) (Kd.R_far (p := ⟨gb493, 3, none⟩) (Kd.R_far (p := ⟨gb493, 2, none⟩) (Kd.R_far (p := ⟨gb493, 1, none⟩) (Kd.R_far (p := ⟨gb493, 0, none⟩) (Kd.R_types HO456.out BK493.out (by decide)) (fun _ hk => hk.2) (.string t483)) (fun _ hk => hk.2) (.string t484)) (fun _ hk => hk.2) (.string t485)) (fun _ hk => hk.2) (.slice Ao33 t486.length co33)) (fun _ hk => hk.2) (.slice Ao34 t489.length co34)) (fun _ h_ => h_.1))) hb); have n1_ := am_ (Kd.R_below (by (with_reducible repeat (first | apply Kd.R_alloc | apply Kd.R_drewN | apply Kd.R_drew)); exact (Kd.R_mono (Kd.R_far (p := ⟨gb493, 4, none⟩) (Kd.R_far (p := ⟨gb493, 3, none⟩) (Kd.R_far (p := ⟨gb493, 2, none⟩) (Kd.R_far (p := ⟨gb493, 1, none⟩) (Kd.R_far (p := ⟨gb493, 0, none⟩) (Kd.R_types HO464.out BK493.out (by decide)) (fun _ hk => hk.2) (.string t483)) (fun _ hk => hk.2) (.string t484)) (fun _ hk => hk.2) (.string t485)) (fun _ hk => hk.2) (.slice Ao33 t486.length co33)) (fun _ hk => hk.2) (.slice Ao34 t489.length co34)) (fun _ h_ => h_.1))) hb); have n2_ := am_ (Kd.R_below (by (with_reducible repeat (first | apply Kd.R_alloc | apply Kd.R_drewN | apply Kd.R_drew)); exact (Kd.R_mono (Kd.R_far (p := ⟨gb493, 4, none⟩) (Kd.R_far (p := ⟨gb493, 3, none⟩) (Kd.R_far (p := ⟨gb493, 2, none⟩) (Kd.R_far (p := ⟨gb493, 1, none⟩) (Kd.R_far (p := ⟨gb493, 0, none⟩) (Kd.R_types HO467.out BK493.out (by decide)) (fun _ hk => hk.2) (.string t483)) (fun _ hk => hk.2) (.string t484)) (fun _ hk => hk.2) (.string t485)) (fun _ hk => hk.2) (.slice Ao33 t486.length co33)) (fun _ hk => hk.2) (.slice Ao34 t489.length co34)) (fun _ h_ => h_.1))) hb); have n3_ := am_ (Kd.V_below (by (with_reducible repeat (first | apply Kd.V_alloc | apply Kd.V_drewN | apply Kd.V_drew)); exact (Kd.V_mono (Kd.V_far (p := ⟨gb493, 4, none⟩) (Kd.V_far (p := ⟨gb493, 3, none⟩) (Kd.V_far (p := ⟨gb493, 2, none⟩) (Kd.V_far (p := ⟨gb493, 1, none⟩) (Kd.V_far (p := ⟨gb493, 0, none⟩) (Kd.V_mono HO475.out (fun k_ hk => (⟨hk, hk.2⟩ : _ ∧ k_ ≠ gb493))) (fun _ hk => hk.2) (.string t483)) (fun _ hk => hk.2) (.string t484)) (fun _ hk => hk.2) (.string t485)) (fun _ hk => hk.2) (.slice Ao33 t486.length co33)) (fun _ hk => hk.2) (.slice Ao34 t489.length co34)) (fun _ h_ => h_.1))) hb); have n4_ := am_ (Kd.V_below (by (with_reducible repeat (first | apply Kd.V_alloc | apply Kd.V_drewN | apply Kd.V_drew)); exact (Kd.V_mono (Kd.V_far (p := ⟨gb493, 4, none⟩) (Kd.V_far (p := ⟨gb493, 3, none⟩) (Kd.V_far (p := ⟨gb493, 2, none⟩) (Kd.V_far (p := ⟨gb493, 1, none⟩) (Kd.V_far (p := ⟨gb493, 0, none⟩) (Kd.V_mono HO478.out (fun k_ hk => (⟨hk, hk.2⟩ : _ ∧ k_ ≠ gb493))) (fun _ hk => hk.2) (.string t483)) (fun _ hk => hk.2) (.string t484)) (fun _ hk => hk.2) (.string t485)) (fun _ hk => hk.2) (.slice Ao33 t486.length co33)) (fun _ hk => hk.2) (.slice Ao34 t489.length co34)) (fun _ h_ => h_.1))) hb); have n5_ := am_ (Kd.V_below (by (with_reducible repeat (first | apply Kd.V_alloc | apply Kd.V_drewN | apply Kd.V_drew)); exact (Kd.V_mono (Kd.V_far (p := ⟨gb493, 4, none⟩) (Kd.V_far (p := ⟨gb493, 3, none⟩) (Kd.V_far (p := ⟨gb493, 2, none⟩) (Kd.V_far (p := ⟨gb493, 1, none⟩) (Kd.V_far (p := ⟨gb493, 0, none⟩) (Kd.V_mono HO488.out (fun k_ hk => (⟨hk, hk.2⟩ : _ ∧ k_ ≠ gb493))) (fun _ hk => hk.2) (.string t483)) (fun _ hk => hk.2) (.string t484)) (fun _ hk => hk.2) (.string t485)) (fun _ hk => hk.2) (.slice Ao33 t486.length co33)) (fun _ hk => hk.2) (.slice Ao34 t489.length co34)) (fun _ h_ => h_.1))) hb); have n6_ := am_ (Kd.V_below (by (with_reducible repeat (first | apply Kd.V_alloc | apply Kd.V_drewN | apply Kd.V_drew)); exact (Kd.V_mono (Kd.V_far (p := ⟨gb493, 4, none⟩) (Kd.V_far (p := ⟨gb493, 3, none⟩) (Kd.V_far (p := ⟨gb493, 2, none⟩) (Kd.V_far (p := ⟨gb493, 1, none⟩) (Kd.V_far (p := ⟨gb493, 0, none⟩) (Kd.V_mono HO491.out (fun k_ hk => (⟨hk, hk.2⟩ : _ ∧ k_ ≠ gb493))) (fun _ hk => hk.2) (.string t483)) (fun _ hk => hk.2) (.string t484)) (fun _ hk => hk.2) (.string t485)) (fun _ hk => hk.2) (.slice Ao33 t486.length co33)) (fun _ hk => hk.2) (.slice Ao34 t489.length co34)) (fun _ h_ => h_.1))) hb); have n7_ := am_ (blk_below (g := gb453) (o := .cells #[.slice Ao14 t454.length co14, .int .i64 t457, .string t458, .string t459, .string t460, .string t461, .slice Ao16 t462.length co16, .slice Ao17 t465.length co17, .bool t468] 35 (0, 0)) (by (with_reducible repeat (first | refine blk_drewN ?_ _ | refine blk_drew ?_ | refine blk_alloc ?_ _)); refine blk_far ?_ NB453_493.out _; (with_reducible repeat (first | refine blk_drewN ?_ _ | refine blk_drew ?_ | refine blk_alloc ?_ _)); refine blk_far ?_ NB453_493.out _; (with_reducible repeat (first | refine blk_drewN ?_ _ | refine blk_drew ?_ | refine blk_alloc ?_ _)); refine blk_far ?_ NB453_493.out _; (with_reducible repeat (first | refine blk_drewN ?_ _ | refine blk_drew ?_ | refine blk_alloc ?_ _)); refine blk_far ?_ NB453_493.out _; (with_reducible repeat (first | refine blk_drewN ?_ _ | refine blk_drew ?_ | refine blk_alloc ?_ _)); refine blk_far ?_ NB453_493.out _; (with_reducible repeat (first | refine blk_drewN ?_ _ | refine blk_drew ?_ | refine blk_alloc ?_ _)); exact BK453.out) hb); have n8_ := am_ (blk_below (g := gb480) (o := .cells #[.string t470, .string t471, .string t472, .slice Ao24 t473.length co24, .slice Ao25 t476.length co25] 33 (0, 0)) (by (with_reducible repeat (first | refine blk_drewN ?_ _ | refine blk_drew ?_ | refine blk_alloc ?_ _)); refine blk_far ?_ NB480_493.out _; (with_reducible repeat (first | refine blk_drewN ?_ _ | refine blk_drew ?_ | refine blk_alloc ?_ _)); refine blk_far ?_ NB480_493.out _; (with_reducible repeat (first | refine blk_drewN ?_ _ | refine blk_drew ?_ | refine blk_alloc ?_ _)); refine blk_far ?_ NB480_493.out _; (with_reducible repeat (first | refine blk_drewN ?_ _ | refine blk_drew ?_ | refine blk_alloc ?_ _)); refine blk_far ?_ NB480_493.out _; (with_reducible repeat (first | refine blk_drewN ?_ _ | refine blk_drew ?_ | refine blk_alloc ?_ _)); refine blk_far ?_ NB480_493.out _; (with_reducible repeat (first | refine blk_drewN ?_ _ | refine blk_drew ?_ | refine blk_alloc ?_ _)); exact BK480.out) hb); have n9_ := am_ (blk_below (g := gb493) (o := .cells #[.string t483, .string t484, .string t485, .slice Ao33 t486.length co33, .slice Ao34 t489.length co34] 33 (0, 0)) (by (with_reducible repeat (first | refine blk_drewN ?_ _ | refine blk_drew ?_ | refine blk_alloc ?_ _)); refine blk_put (cs := #[.string t483, .string t484, .string t485, .slice Ao33 t486.length co33, .slice none 0 0]) ?_ 4 _ rfl; (with_reducible repeat (first | refine blk_drewN ?_ _ | refine blk_drew ?_ | refine blk_alloc ?_ _)); refine blk_put (cs := #[.string t483, .string t484, .string t485, .slice none 0 0, .slice none 0 0]) ?_ 3 _ rfl; (with_reducible repeat (first | refine blk_drewN ?_ _ | refine blk_drew ?_ | refine blk_alloc ?_ _)); refine blk_put (cs := #[.string t483, .string t484, .string (⟨#[]⟩ : ByteArray), .slice none 0 0, .slice none 0 0]) ?_ 2 _ rfl; (with_reducible repeat (first | refine blk_drewN ?_ _ | refine blk_drew ?_ | refine blk_alloc ?_ _)); refine blk_put (cs := #[.string t483, .string (⟨#[]⟩ : ByteArray), .string (⟨#[]⟩ : ByteArray), .slice none 0 0, .slice none 0 0]) ?_ 1 _ rfl; (with_reducible repeat (first | refine blk_drewN ?_ _ | refine blk_drew ?_ | refine blk_alloc ?_ _)); refine blk_put (cs := #[.string (⟨#[]⟩ : ByteArray), .string (⟨#[]⟩ : ByteArray), .string (⟨#[]⟩ : ByteArray), .slice none 0 0, .slice none 0 0]) ?_ 0 _ rfl; (with_reducible repeat (first | refine blk_drewN ?_ _ | refine blk_drew ?_ | refine blk_alloc ?_ _)); exact BK493.out) hb); have n10_ := am_ (below_step (bel_ HB.out) hb); clear HO456 HO464 HO467 HO475 HO478 HO488 HO491 BK453 BK480 BK493 HB; have HO456 := n0_; have HO464 := n1_; have HO467 := n2_; have HO475 := n3_; have HO478 := n4_; have HO488 := n5_; have HO491 := n6_; have BK453 := n7_; have BK480 := n8_; have BK493 := n9_; have HB := n10_; clear n0_ n1_ n2_ n3_ n4_ n5_ n6_ n7_ n8_ n9_ n10_; (try clear hb); (try clear hb2); (try clear hk); (try clear hi)))
    go_ret
    exact ⟨fi_, bel_ HB.out⟩
   ·rw [if_neg c9] at H
    exact absurd H (by simp)
  ·rw [if_neg c8] at H
   have c8b0 : decide (30 < (t465.length : Int)) = false := decide_eq_false c8
   have c8b1 : decide (30 < t465.length) = false := decide_eq_false (by omega)
   clear c8
   have HC37 := Aside0.mk H
   clear H
   go_enter Tryz.func5, Tryz.ntmps5
   go_upto_region 8 with (first | ((with_reducible refine gate_dst (N := 2) rfl ?_); refine box_event ?hg (N := 2) ?hd (cs := #[.slice A0_0 l0_0.length c0_0, .int .i64 a0_1, .string a0_2, .string a0_3, .string a0_4, .string a0_5, .slice A0_6 l0_6.length c0_6, .slice A0_7 l0_7.length c0_7, .bool a0_8]) (t := 35) ?hr ?_; (case hd => rfl); (case hg => rfl); (case hr => first | (go_simp; done) | (go_simp; rfl)); intro gb453 hg w38 hbox hb; have n0_ := am_ (below_step (bel_ HB.out) hb); have n1_ := am_ (hbox); have n2_ := am_ ((by rw [hg]; exact (below_size (bel_ HB.out)) : w.heap.size ≤ gb453)); have n3_ := am_ ((by rw [hg]; exact (below_size (bel_ HB.out)) : w.heap.size ≤ gb453)); clear HB; have HB := n0_; have BK453 := n1_; have GW453 := n2_; have GE453 := n3_; clear n0_ n1_ n2_ n3_ hb hbox hg; obtain ⟨hcz39_0, hcz39_1, hcz39_2, hcz39_3, hcz39_4, hcz39_5, hcz39_6, hcz39_7, hcz39_8, hfz39_0, hfz39_1, hfz39_2, hfz39_3, hfz39_4, hfz39_5, hfz39_6, hfz39_7, hfz39_8⟩ := blk9 BK453.out) | ((with_reducible refine gate_callee (f := 15) rfl ?_); refine goesL_ (some 11) rfl rfl Tryz.func15 kr_ rfl #[.agg #[.slice A0_0 l0_0.length c0_0, .int .i64 a0_1, .string a0_2, .string a0_3, .string a0_4, .string a0_5, .slice A0_6 l0_6.length c0_6, .slice A0_7 l0_7.length c0_7, .bool a0_8]] rfl rl_ ?_; (with_reducible refine (tolllaw07_cut.calls k _ _ l0_0 a0_1 a0_2 a0_3 a0_4 a0_5 _ _ l0_6 _ _ l0_7 a0_8 t454 t457 t458 t459 t460 t461 t462 t465 t468 _ ?side1 ?side2 ?side3 ?side4 ?side5 ?side6 A3.out).mono ?_); (case side1 => exact C_ (Kd.C_below HR0_0.out HB.out)); (case side2 => exact HC0_0.out); (case side3 => exact C_ (Kd.C_below HR0_6.out HB.out)); (case side4 => exact HC0_6.out); (case side5 => exact C_ (Kd.C_below HR0_7.out HB.out)); (case side6 => exact HC0_7.out); rintro e w40 ⟨v455, v463, v466, rfl, ho0, ho1, ho2, hb⟩; refine ⟨_, rfl, ?_⟩; have n0_ := am_ (Kd.R_lower ho0 (below_size (bel_ HB.out))); have n1_ := am_ (Kd.R_lower ho1 (below_size (bel_ HB.out))); have n2_ := am_ (Kd.R_lower ho2 (below_size (bel_ HB.out))); have n3_ := am_ (blk_below (g := gb453) (o := .cells #[.slice A0_0 l0_0.length c0_0, .int .i64 a0_1, .string a0_2, .string a0_3, .string a0_4, .string a0_5, .slice A0_6 l0_6.length c0_6, .slice A0_7 l0_7.length c0_7, .bool a0_8] 35 (0, 0)) (blk_ BK453.out) hb); have n4_ := am_ (below_step (bel_ HB.out) hb); clear BK453 HB; have HO456 := n0_; have HO464 := n1_; have HO467 := n2_; have BK453 := n3_; have HB := n4_; clear n0_ n1_ n2_ n3_ n4_; (try clear hb); (try clear hb2); (try clear hk); (try clear hi); (try clear ho0); (try clear ho1); (try clear ho2)) | ((with_reducible refine gate_callee (f := 22) rfl ?_); refine goesL_ (some 13) rfl rfl Tryz.func22 kr_ rfl #[.string a1] rfl rl_ ?_; (with_reducible refine (tolllaw01_Few.calls a1 t469 _ A4.out).mono ?_); rintro e w' ⟨rfl, ⟨nd, rfl⟩⟩; refine ⟨_, rfl, ?_⟩; (try (rw [drewN_self w40]; generalize hq_ : World.drewN w40 _ = w40; have n0_ : Aside0 (Kd.R k26 26 w40 w.heap.size (fun _ => True) v455 t454) := ⟨by rw [← hq_]; exact (R_ HO456.out)⟩; have n1_ : Aside0 (Kd.R k59 59 w40 w.heap.size (fun k_ => some k_ ≠ (v466 : Value).ownBlock) v463 t462) := ⟨by rw [← hq_]; exact (R_ HO464.out)⟩; have n2_ : Aside0 (Kd.R k59 59 w40 w.heap.size (fun k_ => some k_ ≠ (v463 : Value).ownBlock) v466 t465) := ⟨by rw [← hq_]; exact (R_ HO467.out)⟩; have n3_ : Aside0 (w40.heap[gb453]? = some (.cells #[.slice A0_0 l0_0.length c0_0, .int .i64 a0_1, .string a0_2, .string a0_3, .string a0_4, .string a0_5, .slice A0_6 l0_6.length c0_6, .slice A0_7 l0_7.length c0_7, .bool a0_8] 35 (0, 0))) := ⟨by rw [← hq_]; exact (blk_ BK453.out)⟩; have n4_ : Aside0 (Below w.heap.size w w40) := ⟨by rw [← hq_]; exact (bel_ HB.out)⟩; clear HO456 HO464 HO467 BK453 HB hq_; have HO456 := n0_; have HO464 := n1_; have HO467 := n2_; have BK453 := n3_; have HB := n4_; clear n0_ n1_ n2_ n3_ n4_)); obtain ⟨Ao41, co41, eo41⟩ := Kd.R_slice HO456.out; subst eo41; obtain ⟨hcz42_0, hcz42_1, hcz42_2, hcz42_3, hcz42_4, hcz42_5, hcz42_6, hcz42_7, hcz42_8, hfz42_0, hfz42_1, hfz42_2, hfz42_3, hfz42_4, hfz42_5, hfz42_6, hfz42_7, hfz42_8⟩ := blk9 BK453.out; obtain ⟨Ao43, co43, eo43⟩ := Kd.R_slice HO464.out; subst eo43; obtain ⟨Ao44, co44, eo44⟩ := Kd.R_slice HO467.out; subst eo44) | ((with_reducible refine gate_store (t := 35) (p := 2) rfl ?_); refine store_event (t := 35) (p := 2) (v := ?vo_w45) (w1 := (((((((((w40.setCell ⟨gb453, 0, none⟩ (.slice Ao41 t454.length co41)).setCell ⟨gb453, 1, none⟩ (.int .i64 t457)).setCell ⟨gb453, 2, none⟩ (.string t458)).setCell ⟨gb453, 3, none⟩ (.string t459)).setCell ⟨gb453, 4, none⟩ (.string t460)).setCell ⟨gb453, 5, none⟩ (.string t461)).setCell ⟨gb453, 6, none⟩ (.slice Ao43 t462.length co43)).setCell ⟨gb453, 7, none⟩ (.slice Ao44 t465.length co44)).setCell ⟨gb453, 8, none⟩ (.bool t468))) ?hg ?ho ?hn ?hr ?_; (case ho => rfl); (case hg => rfl); (case hn => rfl); (case hr => first | (go_simp; done) | (go_simp; rfl)); intro w45 hw; have n0_ : Aside0 (Kd.R k26 26 w45 w.heap.size (fun _ => True) (.slice Ao41 t454.length co41) t454) := ⟨(by rw [hw]; exact (by (with_reducible repeat (first | apply Kd.R_alloc | apply Kd.R_drewN | apply Kd.R_drew)); exact Kd.R_mono (Kd.R_far (p := ⟨gb453, 8, none⟩) (Kd.R_far (p := ⟨gb453, 7, none⟩) (Kd.R_far (p := ⟨gb453, 6, none⟩) (Kd.R_far (p := ⟨gb453, 5, none⟩) (Kd.R_far (p := ⟨gb453, 4, none⟩) (Kd.R_far (p := ⟨gb453, 3, none⟩) (Kd.R_far (p := ⟨gb453, 2, none⟩) (Kd.R_far (p := ⟨gb453, 1, none⟩) (Kd.R_far (p := ⟨gb453, 0, none⟩) (Kd.R_types HO456.out BK453.out (by decide)) (fun _ hk => hk.2) (.slice Ao41 t454.length co41)) (fun _ hk => hk.2) (.int .i64 t457)) (fun _ hk => hk.2) (.string t458)) (fun _ hk => hk.2) (.string t459)) (fun _ hk => hk.2) (.string t460)) (fun _ hk => hk.2) (.string t461)) (fun _ hk => hk.2) (.slice Ao43 t462.length co43)) (fun _ hk => hk.2) (.slice Ao44 t465.length co44)) (fun _ hk => hk.2) (.bool t468)) (fun _ hk => trivial)))⟩; have n1_ : Aside0 (Kd.R k59 59 w45 w.heap.size (fun k_ => some k_ ≠ (.slice Ao44 t465.length co44 : Value).ownBlock) (.slice Ao43 t462.length co43) t462) := ⟨(by rw [hw]; exact (by (with_reducible repeat (first | apply Kd.R_alloc | apply Kd.R_drewN | apply Kd.R_drew)); exact Kd.R_mono (Kd.R_far (p := ⟨gb453, 8, none⟩) (Kd.R_far (p := ⟨gb453, 7, none⟩) (Kd.R_far (p := ⟨gb453, 6, none⟩) (Kd.R_far (p := ⟨gb453, 5, none⟩) (Kd.R_far (p := ⟨gb453, 4, none⟩) (Kd.R_far (p := ⟨gb453, 3, none⟩) (Kd.R_far (p := ⟨gb453, 2, none⟩) (Kd.R_far (p := ⟨gb453, 1, none⟩) (Kd.R_far (p := ⟨gb453, 0, none⟩) (Kd.R_types HO464.out BK453.out (by decide)) (fun _ hk => hk.2) (.slice Ao41 t454.length co41)) (fun _ hk => hk.2) (.int .i64 t457)) (fun _ hk => hk.2) (.string t458)) (fun _ hk => hk.2) (.string t459)) (fun _ hk => hk.2) (.string t460)) (fun _ hk => hk.2) (.string t461)) (fun _ hk => hk.2) (.slice Ao43 t462.length co43)) (fun _ hk => hk.2) (.slice Ao44 t465.length co44)) (fun _ hk => hk.2) (.bool t468)) (fun _ hk => hk.1)))⟩; have n2_ : Aside0 (Kd.R k59 59 w45 w.heap.size (fun k_ => some k_ ≠ (.slice Ao43 t462.length co43 : Value).ownBlock) (.slice Ao44 t465.length co44) t465) := ⟨(by rw [hw]; exact (by (with_reducible repeat (first | apply Kd.R_alloc | apply Kd.R_drewN | apply Kd.R_drew)); exact Kd.R_mono (Kd.R_far (p := ⟨gb453, 8, none⟩) (Kd.R_far (p := ⟨gb453, 7, none⟩) (Kd.R_far (p := ⟨gb453, 6, none⟩) (Kd.R_far (p := ⟨gb453, 5, none⟩) (Kd.R_far (p := ⟨gb453, 4, none⟩) (Kd.R_far (p := ⟨gb453, 3, none⟩) (Kd.R_far (p := ⟨gb453, 2, none⟩) (Kd.R_far (p := ⟨gb453, 1, none⟩) (Kd.R_far (p := ⟨gb453, 0, none⟩) (Kd.R_types HO467.out BK453.out (by decide)) (fun _ hk => hk.2) (.slice Ao41 t454.length co41)) (fun _ hk => hk.2) (.int .i64 t457)) (fun _ hk => hk.2) (.string t458)) (fun _ hk => hk.2) (.string t459)) (fun _ hk => hk.2) (.string t460)) (fun _ hk => hk.2) (.string t461)) (fun _ hk => hk.2) (.slice Ao43 t462.length co43)) (fun _ hk => hk.2) (.slice Ao44 t465.length co44)) (fun _ hk => hk.2) (.bool t468)) (fun _ hk => hk.1)))⟩; have n3_ : Aside0 (w45.heap[gb453]? = some (.cells #[.slice Ao41 t454.length co41, .int .i64 t457, .string t458, .string t459, .string t460, .string t461, .slice Ao43 t462.length co43, .slice Ao44 t465.length co44, .bool t468] 35 (0, 0))) := ⟨(by rw [hw]; exact (by (with_reducible repeat (first | refine blk_drewN ?_ _ | refine blk_drew ?_ | refine blk_alloc ?_ _)); refine blk_put (cs := #[.slice Ao41 t454.length co41, .int .i64 t457, .string t458, .string t459, .string t460, .string t461, .slice Ao43 t462.length co43, .slice Ao44 t465.length co44, .bool a0_8]) ?_ 8 _ rfl; (with_reducible repeat (first | refine blk_drewN ?_ _ | refine blk_drew ?_ | refine blk_alloc ?_ _)); refine blk_put (cs := #[.slice Ao41 t454.length co41, .int .i64 t457, .string t458, .string t459, .string t460, .string t461, .slice Ao43 t462.length co43, .slice A0_7 l0_7.length c0_7, .bool a0_8]) ?_ 7 _ rfl; (with_reducible repeat (first | refine blk_drewN ?_ _ | refine blk_drew ?_ | refine blk_alloc ?_ _)); refine blk_put (cs := #[.slice Ao41 t454.length co41, .int .i64 t457, .string t458, .string t459, .string t460, .string t461, .slice A0_6 l0_6.length c0_6, .slice A0_7 l0_7.length c0_7, .bool a0_8]) ?_ 6 _ rfl; (with_reducible repeat (first | refine blk_drewN ?_ _ | refine blk_drew ?_ | refine blk_alloc ?_ _)); refine blk_put (cs := #[.slice Ao41 t454.length co41, .int .i64 t457, .string t458, .string t459, .string t460, .string a0_5, .slice A0_6 l0_6.length c0_6, .slice A0_7 l0_7.length c0_7, .bool a0_8]) ?_ 5 _ rfl; (with_reducible repeat (first | refine blk_drewN ?_ _ | refine blk_drew ?_ | refine blk_alloc ?_ _)); refine blk_put (cs := #[.slice Ao41 t454.length co41, .int .i64 t457, .string t458, .string t459, .string a0_4, .string a0_5, .slice A0_6 l0_6.length c0_6, .slice A0_7 l0_7.length c0_7, .bool a0_8]) ?_ 4 _ rfl; (with_reducible repeat (first | refine blk_drewN ?_ _ | refine blk_drew ?_ | refine blk_alloc ?_ _)); refine blk_put (cs := #[.slice Ao41 t454.length co41, .int .i64 t457, .string t458, .string a0_3, .string a0_4, .string a0_5, .slice A0_6 l0_6.length c0_6, .slice A0_7 l0_7.length c0_7, .bool a0_8]) ?_ 3 _ rfl; (with_reducible repeat (first | refine blk_drewN ?_ _ | refine blk_drew ?_ | refine blk_alloc ?_ _)); refine blk_put (cs := #[.slice Ao41 t454.length co41, .int .i64 t457, .string a0_2, .string a0_3, .string a0_4, .string a0_5, .slice A0_6 l0_6.length c0_6, .slice A0_7 l0_7.length c0_7, .bool a0_8]) ?_ 2 _ rfl; (with_reducible repeat (first | refine blk_drewN ?_ _ | refine blk_drew ?_ | refine blk_alloc ?_ _)); refine blk_put (cs := #[.slice Ao41 t454.length co41, .int .i64 a0_1, .string a0_2, .string a0_3, .string a0_4, .string a0_5, .slice A0_6 l0_6.length c0_6, .slice A0_7 l0_7.length c0_7, .bool a0_8]) ?_ 1 _ rfl; (with_reducible repeat (first | refine blk_drewN ?_ _ | refine blk_drew ?_ | refine blk_alloc ?_ _)); refine blk_put (cs := #[.slice A0_0 l0_0.length c0_0, .int .i64 a0_1, .string a0_2, .string a0_3, .string a0_4, .string a0_5, .slice A0_6 l0_6.length c0_6, .slice A0_7 l0_7.length c0_7, .bool a0_8]) ?_ 0 _ rfl; (with_reducible repeat (first | refine blk_drewN ?_ _ | refine blk_drew ?_ | refine blk_alloc ?_ _)); exact BK453.out))⟩; have n4_ : Aside0 (Below w.heap.size w w45) := ⟨(by rw [hw]; exact (bel_ HB.out))⟩; clear hw HO456 HO464 HO467 BK453 HB; have HO456 := n0_; have HO464 := n1_; have HO467 := n2_; have BK453 := n3_; have HB := n4_; clear n0_ n1_ n2_ n3_ n4_; obtain ⟨hcz46_0, hcz46_1, hcz46_2, hcz46_3, hcz46_4, hcz46_5, hcz46_6, hcz46_7, hcz46_8, hfz46_0, hfz46_1, hfz46_2, hfz46_3, hfz46_4, hfz46_5, hfz46_6, hfz46_7, hfz46_8⟩ := blk9 BK453.out) | ((with_reducible refine gate_callee (f := 17) rfl ?_); refine goesL_ (some 21) rfl rfl Tryz.func17 kr_ rfl #[.slice Ao41 t454.length co41, .agg #[.int .i64 t457, .string t458], .agg #[.string t459, .string t460, .string t461, .slice Ao43 t462.length co43, .slice Ao44 t465.length co44]] rfl rl_ ?_; (with_reducible refine (filter_Do.calls k _ _ t454 t457 t458 t459 t460 t461 (fun k_ => some k_ = (.slice Ao43 t462.length co43 : Value).ownBlock) _ _ t462 (fun k_ => some k_ = (.slice Ao44 t465.length co44 : Value).ownBlock) _ _ t465 t470 t471 t472 t473 t476 t479 _ ?side1 ?side2 ?side3 ?side4 A5.out).mono ?_); (case side1 => exact C_ (Kd.R_reads' HO456.out).2.2); (case side2 => exact (Kd.R_reads' HO456.out).2.1); (case side3 => exact Kd.R_V (Kd.R_tight rfl (Kd.R_types (Kd.R_apart' (HO464.out) (Kd.R_typed HO456.out) (by decide)) BK453.out (by decide)))); (case side4 => exact Kd.R_V (Kd.R_tight rfl (Kd.R_types (Kd.R_apart' (HO467.out) (Kd.R_typed HO456.out) (by decide)) BK453.out (by decide)))); rintro e w47 ⟨v474, v477, rfl, ho0, ho1, hb⟩; refine ⟨_, rfl, ?_⟩; have n0_ := am_ (Kd.R_below (R_ HO456.out) hb); have n1_ := am_ (Kd.R_below (R_ HO464.out) hb); have n2_ := am_ (Kd.R_below (R_ HO467.out) hb); have n3_ := am_ (Kd.V_lower (Kd.V_mono (ok' := fun k_ => some k_ ≠ (.slice Ao41 t454.length co41 : Value).ownBlock ∧ k_ ≠ gb453) ho0 (fun k_ hk_ => ⟨Or.elim hk_ (fun hs_ => Or.elim hs_ (fun hs_ => ((Kd.R_types (Kd.R_apart' (HO464.out) (Kd.R_typed HO456.out) (by decide)) BK453.out (by decide)).1 k_ hs_.symm).1.2) (fun hs_ => ((Kd.R_types (Kd.R_apart' (HO467.out) (Kd.R_typed HO456.out) (by decide)) BK453.out (by decide)).1 k_ hs_.symm).1.2)) (fun hn_ => (Kd.fresh' (Kd.R_lt (R_ HO456.out)) k_ hn_)), Or.elim hk_ (fun hs_ => Or.elim hs_ (fun hs_ => ((Kd.R_types (Kd.R_apart' (HO464.out) (Kd.R_typed HO456.out) (by decide)) BK453.out (by decide)).1 k_ hs_.symm).2) (fun hs_ => ((Kd.R_types (Kd.R_apart' (HO467.out) (Kd.R_typed HO456.out) (by decide)) BK453.out (by decide)).1 k_ hs_.symm).2)) (fun hn_ => (Kd.freshB (g := gb453) (o := .cells #[.slice Ao41 t454.length co41, .int .i64 t457, .string t458, .string t459, .string t460, .string t461, .slice Ao43 t462.length co43, .slice Ao44 t465.length co44, .bool t468] 35 (0, 0)) (blk_ BK453.out) k_ hn_))⟩)) (below_size (bel_ HB.out))); have n4_ := am_ (Kd.V_lower (Kd.V_mono (ok' := fun k_ => some k_ ≠ (.slice Ao41 t454.length co41 : Value).ownBlock ∧ k_ ≠ gb453) ho1 (fun k_ hk_ => ⟨Or.elim hk_ (fun hs_ => Or.elim hs_ (fun hs_ => ((Kd.R_types (Kd.R_apart' (HO464.out) (Kd.R_typed HO456.out) (by decide)) BK453.out (by decide)).1 k_ hs_.symm).1.2) (fun hs_ => ((Kd.R_types (Kd.R_apart' (HO467.out) (Kd.R_typed HO456.out) (by decide)) BK453.out (by decide)).1 k_ hs_.symm).1.2)) (fun hn_ => (Kd.fresh' (Kd.R_lt (R_ HO456.out)) k_ hn_)), Or.elim hk_ (fun hs_ => Or.elim hs_ (fun hs_ => ((Kd.R_types (Kd.R_apart' (HO464.out) (Kd.R_typed HO456.out) (by decide)) BK453.out (by decide)).1 k_ hs_.symm).2) (fun hs_ => ((Kd.R_types (Kd.R_apart' (HO467.out) (Kd.R_typed HO456.out) (by decide)) BK453.out (by decide)).1 k_ hs_.symm).2)) (fun hn_ => (Kd.freshB (g := gb453) (o := .cells #[.slice Ao41 t454.length co41, .int .i64 t457, .string t458, .string t459, .string t460, .string t461, .slice Ao43 t462.length co43, .slice Ao44 t465.length co44, .bool t468] 35 (0, 0)) (blk_ BK453.out) k_ hn_))⟩)) (below_size (bel_ HB.out))); have n5_ := am_ (blk_below (g := gb453) (o := .cells #[.slice Ao41 t454.length co41, .int .i64 t457, .string t458, .string t459, .string t460, .string t461, .slice Ao43 t462.length co43, .slice Ao44 t465.length co44, .bool t468] 35 (0, 0)) (blk_ BK453.out) hb); have n6_ := am_ (below_step (bel_ HB.out) hb); clear HO456 HO464 HO467 BK453 HB; have HO456 := n0_; have HO464 := n1_; have HO467 := n2_; have HO475 := n3_; have HO478 := n4_; have BK453 := n5_; have HB := n6_; clear n0_ n1_ n2_ n3_ n4_ n5_ n6_; (try clear hb); (try clear hb2); (try clear hk); (try clear hi); (try clear ho0); (try clear ho1)) | ((with_reducible refine gate_dst (N := 5) rfl ?_); refine box_event ?hg (N := 5) ?hd (cs := #[.string (⟨#[]⟩ : ByteArray), .string (⟨#[]⟩ : ByteArray), .string (⟨#[]⟩ : ByteArray), .slice none 0 0, .slice none 0 0]) (t := 33) ?hr ?_; (case hd => rfl); (case hg => rfl); (case hr => first | (go_simp; done) | (go_simp; rfl)); intro gb480 hg w48 hbox hb; have n0_ := am_ (Kd.R_below (R_ HO456.out) hb); have n1_ := am_ (Kd.R_below (R_ HO464.out) hb); have n2_ := am_ (Kd.R_below (R_ HO467.out) hb); have n3_ := am_ (Kd.V_below (Kd.V_elderB (by (with_reducible repeat (first | apply Kd.V_alloc | apply Kd.V_drewN | apply Kd.V_drew)); exact HO475.out) gb480 (Nat.le_of_eq hg.symm)) hb); have n4_ := am_ (Kd.V_below (Kd.V_elderB (by (with_reducible repeat (first | apply Kd.V_alloc | apply Kd.V_drewN | apply Kd.V_drew)); exact HO478.out) gb480 (Nat.le_of_eq hg.symm)) hb); have n5_ := am_ (blk_below (g := gb453) (o := .cells #[.slice Ao41 t454.length co41, .int .i64 t457, .string t458, .string t459, .string t460, .string t461, .slice Ao43 t462.length co43, .slice Ao44 t465.length co44, .bool t468] 35 (0, 0)) (blk_ BK453.out) hb); have n6_ := am_ (below_step (bel_ HB.out) hb); have n7_ := am_ (hbox); have n8_ := am_ ((by rw [hg]; exact (below_size (bel_ HB.out)) : w.heap.size ≤ gb480)); have n9_ := am_ ((by rw [hg]; exact (below_size (bel_ HB.out)) : w.heap.size ≤ gb480)); have n10_ := am_ ((by rw [hg]; exact Nat.ne_of_lt (blk_lt (g := gb453) (o := .cells #[.slice Ao41 t454.length co41, .int .i64 t457, .string t458, .string t459, .string t460, .string t461, .slice Ao43 t462.length co43, .slice Ao44 t465.length co44, .bool t468] 35 (0, 0)) (blk_ BK453.out)) : gb453 ≠ gb480)); have n11_ := am_ ((by rw [hg]; exact Nat.ne_of_gt (blk_lt (g := gb453) (o := .cells #[.slice Ao41 t454.length co41, .int .i64 t457, .string t458, .string t459, .string t460, .string t461, .slice Ao43 t462.length co43, .slice Ao44 t465.length co44, .bool t468] 35 (0, 0)) (blk_ BK453.out)) : gb480 ≠ gb453)); clear HO456 HO464 HO467 HO475 HO478 BK453 HB; have HO456 := n0_; have HO464 := n1_; have HO467 := n2_; have HO475 := n3_; have HO478 := n4_; have BK453 := n5_; have HB := n6_; have BK480 := n7_; have GW480 := n8_; have GE480 := n9_; have NB453_480 := n10_; have NB480_453 := n11_; clear n0_ n1_ n2_ n3_ n4_ n5_ n6_ n7_ n8_ n9_ n10_ n11_ hb hbox hg; have hnb49 := NB480_453.out; have hnc49 := NB453_480.out; obtain ⟨hcz50_0, hcz50_1, hcz50_2, hcz50_3, hcz50_4, hfz50_0, hfz50_1, hfz50_2, hfz50_3, hfz50_4⟩ := blk5 BK480.out; obtain ⟨Ao51, co51, eo51⟩ := Kd.V_slice HO475.out; subst eo51; obtain ⟨Ao52, co52, eo52⟩ := Kd.V_slice HO478.out; subst eo52) | ((with_reducible refine gate_store (t := 33) (p := 5) rfl ?_); refine store_event (t := 33) (p := 5) (v := ?vo_w53) (w1 := (((((w48.setCell ⟨gb480, 0, none⟩ (.string t470)).setCell ⟨gb480, 1, none⟩ (.string t471)).setCell ⟨gb480, 2, none⟩ (.string t472)).setCell ⟨gb480, 3, none⟩ (.slice Ao51 t473.length co51)).setCell ⟨gb480, 4, none⟩ (.slice Ao52 t476.length co52))) ?hg ?ho ?hn ?hr ?_; (case ho => rfl); (case hg => rfl); (case hn => rfl); (case hr => first | (go_simp; done) | (go_simp; rfl)); intro w53 hw; have n0_ : Aside0 (Kd.R k26 26 w53 w.heap.size (fun _ => True) (.slice Ao41 t454.length co41) t454) := ⟨(by rw [hw]; exact (by (with_reducible repeat (first | apply Kd.R_alloc | apply Kd.R_drewN | apply Kd.R_drew)); exact Kd.R_mono (Kd.R_far (p := ⟨gb480, 4, none⟩) (Kd.R_far (p := ⟨gb480, 3, none⟩) (Kd.R_far (p := ⟨gb480, 2, none⟩) (Kd.R_far (p := ⟨gb480, 1, none⟩) (Kd.R_far (p := ⟨gb480, 0, none⟩) (Kd.R_types HO456.out BK480.out (by decide)) (fun _ hk => hk.2) (.string t470)) (fun _ hk => hk.2) (.string t471)) (fun _ hk => hk.2) (.string t472)) (fun _ hk => hk.2) (.slice Ao51 t473.length co51)) (fun _ hk => hk.2) (.slice Ao52 t476.length co52)) (fun _ hk => trivial)))⟩; have n1_ : Aside0 (Kd.R k59 59 w53 w.heap.size (fun k_ => some k_ ≠ (.slice Ao44 t465.length co44 : Value).ownBlock) (.slice Ao43 t462.length co43) t462) := ⟨(by rw [hw]; exact (by (with_reducible repeat (first | apply Kd.R_alloc | apply Kd.R_drewN | apply Kd.R_drew)); exact Kd.R_mono (Kd.R_far (p := ⟨gb480, 4, none⟩) (Kd.R_far (p := ⟨gb480, 3, none⟩) (Kd.R_far (p := ⟨gb480, 2, none⟩) (Kd.R_far (p := ⟨gb480, 1, none⟩) (Kd.R_far (p := ⟨gb480, 0, none⟩) (Kd.R_types HO464.out BK480.out (by decide)) (fun _ hk => hk.2) (.string t470)) (fun _ hk => hk.2) (.string t471)) (fun _ hk => hk.2) (.string t472)) (fun _ hk => hk.2) (.slice Ao51 t473.length co51)) (fun _ hk => hk.2) (.slice Ao52 t476.length co52)) (fun _ hk => hk.1)))⟩; have n2_ : Aside0 (Kd.R k59 59 w53 w.heap.size (fun k_ => some k_ ≠ (.slice Ao43 t462.length co43 : Value).ownBlock) (.slice Ao44 t465.length co44) t465) := ⟨(by rw [hw]; exact (by (with_reducible repeat (first | apply Kd.R_alloc | apply Kd.R_drewN | apply Kd.R_drew)); exact Kd.R_mono (Kd.R_far (p := ⟨gb480, 4, none⟩) (Kd.R_far (p := ⟨gb480, 3, none⟩) (Kd.R_far (p := ⟨gb480, 2, none⟩) (Kd.R_far (p := ⟨gb480, 1, none⟩) (Kd.R_far (p := ⟨gb480, 0, none⟩) (Kd.R_types HO467.out BK480.out (by decide)) (fun _ hk => hk.2) (.string t470)) (fun _ hk => hk.2) (.string t471)) (fun _ hk => hk.2) (.string t472)) (fun _ hk => hk.2) (.slice Ao51 t473.length co51)) (fun _ hk => hk.2) (.slice Ao52 t476.length co52)) (fun _ hk => hk.1)))⟩; have n3_ : Aside0 (Kd.V k59 59 w53 w.heap.size (fun k_ => some k_ ≠ (.slice Ao41 t454.length co41 : Value).ownBlock ∧ k_ ≠ gb453 ∧ k_ ≠ gb480) (.slice Ao51 t473.length co51) t473) := ⟨(by rw [hw]; exact (by (with_reducible repeat (first | apply Kd.V_alloc | apply Kd.V_drewN | apply Kd.V_drew)); exact Kd.V_mono (Kd.V_far (p := ⟨gb480, 4, none⟩) (Kd.V_far (p := ⟨gb480, 3, none⟩) (Kd.V_far (p := ⟨gb480, 2, none⟩) (Kd.V_far (p := ⟨gb480, 1, none⟩) (Kd.V_far (p := ⟨gb480, 0, none⟩) (Kd.V_mono HO475.out (fun k_ hk => (⟨hk, hk.2⟩ : _ ∧ k_ ≠ gb480))) (fun _ hk => hk.2) (.string t470)) (fun _ hk => hk.2) (.string t471)) (fun _ hk => hk.2) (.string t472)) (fun _ hk => hk.2) (.slice Ao51 t473.length co51)) (fun _ hk => hk.2) (.slice Ao52 t476.length co52)) (fun _ hk => ⟨hk.1.1.1, ⟨hk.1.1.2, hk.1.2⟩⟩)))⟩; have n4_ : Aside0 (Kd.V k59 59 w53 w.heap.size (fun k_ => some k_ ≠ (.slice Ao41 t454.length co41 : Value).ownBlock ∧ k_ ≠ gb453 ∧ k_ ≠ gb480) (.slice Ao52 t476.length co52) t476) := ⟨(by rw [hw]; exact (by (with_reducible repeat (first | apply Kd.V_alloc | apply Kd.V_drewN | apply Kd.V_drew)); exact Kd.V_mono (Kd.V_far (p := ⟨gb480, 4, none⟩) (Kd.V_far (p := ⟨gb480, 3, none⟩) (Kd.V_far (p := ⟨gb480, 2, none⟩) (Kd.V_far (p := ⟨gb480, 1, none⟩) (Kd.V_far (p := ⟨gb480, 0, none⟩) (Kd.V_mono HO478.out (fun k_ hk => (⟨hk, hk.2⟩ : _ ∧ k_ ≠ gb480))) (fun _ hk => hk.2) (.string t470)) (fun _ hk => hk.2) (.string t471)) (fun _ hk => hk.2) (.string t472)) (fun _ hk => hk.2) (.slice Ao51 t473.length co51)) (fun _ hk => hk.2) (.slice Ao52 t476.length co52)) (fun _ hk => ⟨hk.1.1.1, ⟨hk.1.1.2, hk.1.2⟩⟩)))⟩; have n5_ : Aside0 (w53.heap[gb453]? = some (.cells #[.slice Ao41 t454.length co41, .int .i64 t457, .string t458, .string t459, .string t460, .string t461, .slice Ao43 t462.length co43, .slice Ao44 t465.length co44, .bool t468] 35 (0, 0))) := ⟨(by rw [hw]; exact (by (with_reducible repeat (first | refine blk_drewN ?_ _ | refine blk_drew ?_ | refine blk_alloc ?_ _)); refine blk_far ?_ NB453_480.out _; (with_reducible repeat (first | refine blk_drewN ?_ _ | refine blk_drew ?_ | refine blk_alloc ?_ _)); refine blk_far ?_ NB453_480.out _; (with_reducible repeat (first | refine blk_drewN ?_ _ | refine blk_drew ?_ | refine blk_alloc ?_ _)); refine blk_far ?_ NB453_480.out _; (with_reducible repeat (first | refine blk_drewN ?_ _ | refine blk_drew ?_ | refine blk_alloc ?_ _)); refine blk_far ?_ NB453_480.out _; (with_reducible repeat (first | refine blk_drewN ?_ _ | refine blk_drew ?_ | refine blk_alloc ?_ _)); refine blk_far ?_ NB453_480.out _; (with_reducible repeat (first | refine blk_drewN ?_ _ | refine blk_drew ?_ | refine blk_alloc ?_ _)); exact BK453.out))⟩; have n6_ : Aside0 (w53.heap[gb480]? = some (.cells #[.string t470, .string t471, .string t472, .slice Ao51 t473.length co51, .slice Ao52 t476.length co52] 33 (0, 0))) := ⟨(by rw [hw]; exact (by (with_reducible repeat (first | refine blk_drewN ?_ _ | refine blk_drew ?_ | refine blk_alloc ?_ _)); refine blk_put (cs := #[.string t470, .string t471, .string t472, .slice Ao51 t473.length co51, .slice none 0 0]) ?_ 4 _ rfl; (with_reducible repeat (first | refine blk_drewN ?_ _ | refine blk_drew ?_ | refine blk_alloc ?_ _)); refine blk_put (cs := #[.string t470, .string t471, .string t472, .slice none 0 0, .slice none 0 0]) ?_ 3 _ rfl; (with_reducible repeat (first | refine blk_drewN ?_ _ | refine blk_drew ?_ | refine blk_alloc ?_ _)); refine blk_put (cs := #[.string t470, .string t471, .string (⟨#[]⟩ : ByteArray), .slice none 0 0, .slice none 0 0]) ?_ 2 _ rfl; (with_reducible repeat (first | refine blk_drewN ?_ _ | refine blk_drew ?_ | refine blk_alloc ?_ _)); refine blk_put (cs := #[.string t470, .string (⟨#[]⟩ : ByteArray), .string (⟨#[]⟩ : ByteArray), .slice none 0 0, .slice none 0 0]) ?_ 1 _ rfl; (with_reducible repeat (first | refine blk_drewN ?_ _ | refine blk_drew ?_ | refine blk_alloc ?_ _)); refine blk_put (cs := #[.string (⟨#[]⟩ : ByteArray), .string (⟨#[]⟩ : ByteArray), .string (⟨#[]⟩ : ByteArray), .slice none 0 0, .slice none 0 0]) ?_ 0 _ rfl; (with_reducible repeat (first | refine blk_drewN ?_ _ | refine blk_drew ?_ | refine blk_alloc ?_ _)); exact BK480.out))⟩; have n7_ : Aside0 (Below w.heap.size w w53) := ⟨(by rw [hw]; exact (bel_ HB.out))⟩; clear hw HO456 HO464 HO467 HO475 HO478 BK453 BK480 HB; have HO456 := n0_; have HO464 := n1_; have HO467 := n2_; have HO475 := n3_; have HO478 := n4_; have BK453 := n5_; have BK480 := n6_; have HB := n7_; clear n0_ n1_ n2_ n3_ n4_ n5_ n6_ n7_; obtain ⟨hcz54_0, hcz54_1, hcz54_2, hcz54_3, hcz54_4, hcz54_5, hcz54_6, hcz54_7, hcz54_8, hfz54_0, hfz54_1, hfz54_2, hfz54_3, hfz54_4, hfz54_5, hfz54_6, hfz54_7, hfz54_8⟩ := blk9 BK453.out) | ((with_reducible refine gate_callee (f := 17) rfl ?_); refine goesL_ (some 37) rfl rfl Tryz.func17 kr_ rfl #[.slice none 0 0, .agg #[.int .i64 t457, .string t458], .agg #[.string t459, .string t460, .string t461, .slice Ao43 t462.length co43, .slice Ao44 t465.length co44]] rfl rl_ ?_; (refine (filter_Do.calls k _ _ ([] : List (S26)) t457 t458 t459 t460 t461 (fun k_ => some k_ = (.slice Ao43 t462.length co43 : Value).ownBlock) _ _ t462 (fun k_ => some k_ = (.slice Ao44 t465.length co44 : Value).ownBlock) _ _ t465 t483 t484 t485 t486 t489 t492 _ ?side1 ?side2 ?side3 ?side4 A7.out).mono ?_); (case side1 => exact Kd.C_nil _ _); (case side2 => exact Nat.le_refl _); (case side3 => exact Kd.R_V (Kd.R_tight rfl (Kd.R_types (Kd.R_types (Kd.R_apart' (HO464.out) (Kd.R_typed HO456.out) (by decide)) BK453.out (by decide)) BK480.out (by decide)))); (case side4 => exact Kd.R_V (Kd.R_tight rfl (Kd.R_types (Kd.R_types (Kd.R_apart' (HO467.out) (Kd.R_typed HO456.out) (by decide)) BK453.out (by decide)) BK480.out (by decide)))); rintro e w55 ⟨v487, v490, rfl, ho0, ho1, hb⟩; refine ⟨_, rfl, ?_⟩; have n0_ := am_ (Kd.R_below (R_ HO456.out) hb); have n1_ := am_ (Kd.R_below (R_ HO464.out) hb); have n2_ := am_ (Kd.R_below (R_ HO467.out) hb); have n3_ := am_ (Kd.V_below (by (with_reducible repeat (first | apply Kd.V_alloc | apply Kd.V_drewN | apply Kd.V_drew)); exact HO475.out) hb); have n4_ := am_ (Kd.V_below (by (with_reducible repeat (first | apply Kd.V_alloc | apply Kd.V_drewN | apply Kd.V_drew)); exact HO478.out) hb); have n5_ := am_ (Kd.V_lower (Kd.V_mono (ok' := fun k_ => some k_ ≠ (.slice Ao41 t454.length co41 : Value).ownBlock ∧ k_ ≠ gb453 ∧ k_ ≠ gb480) ho0 (fun k_ hk_ => ⟨Or.elim hk_ (fun hs_ => Or.elim hs_ (fun hs_ => ((Kd.R_types (Kd.R_types (Kd.R_apart' (HO464.out) (Kd.R_typed HO456.out) (by decide)) BK453.out (by decide)) BK480.out (by decide)).1 k_ hs_.symm).1.1.2) (fun hs_ => ((Kd.R_types (Kd.R_types (Kd.R_apart' (HO467.out) (Kd.R_typed HO456.out) (by decide)) BK453.out (by decide)) BK480.out (by decide)).1 k_ hs_.symm).1.1.2)) (fun hn_ => (Kd.fresh' (Kd.R_lt (R_ HO456.out)) k_ hn_)), Or.elim hk_ (fun hs_ => Or.elim hs_ (fun hs_ => ((Kd.R_types (Kd.R_types (Kd.R_apart' (HO464.out) (Kd.R_typed HO456.out) (by decide)) BK453.out (by decide)) BK480.out (by decide)).1 k_ hs_.symm).1.2) (fun hs_ => ((Kd.R_types (Kd.R_types (Kd.R_apart' (HO467.out) (Kd.R_typed HO456.out) (by decide)) BK453.out (by decide)) BK480.out (by decide)).1 k_ hs_.symm).1.2)) (fun hn_ => (Kd.freshB (g := gb453) (o := .cells #[.slice Ao41 t454.length co41, .int .i64 t457, .string t458, .string t459, .string t460, .string t461, .slice Ao43 t462.length co43, .slice Ao44 t465.length co44, .bool t468] 35 (0, 0)) (blk_ BK453.out) k_ hn_)), Or.elim hk_ (fun hs_ => Or.elim hs_ (fun hs_ => ((Kd.R_types (Kd.R_types (Kd.R_apart' (HO464.out) (Kd.R_typed HO456.out) (by decide)) BK453.out (by decide)) BK480.out (by decide)).1 k_ hs_.symm).2) (fun hs_ => ((Kd.R_types (Kd.R_types (Kd.R_apart' (HO467.out) (Kd.R_typed HO456.out) (by decide)) BK453.out (by decide)) BK480.out (by decide)).1 k_ hs_.symm).2)) (fun hn_ => (Kd.freshB (g := gb480) (o := .cells #[.string t470, .string t471, .string t472, .slice Ao51 t473.length co51, .slice Ao52 t476.length co52] 33 (0, 0)) (blk_ BK480.out) k_ hn_))⟩)) (below_size (bel_ HB.out))); have n6_ := am_ (Kd.V_lower (Kd.V_mono (ok' := fun k_ => some k_ ≠ (.slice Ao41 t454.length co41 : Value).ownBlock ∧ k_ ≠ gb453 ∧ k_ ≠ gb480) ho1 (fun k_ hk_ => ⟨Or.elim hk_ (fun hs_ => Or.elim hs_ (fun hs_ => ((Kd.R_types (Kd.R_types (Kd.R_apart' (HO464.out) (Kd.R_typed HO456.out) (by decide)) BK453.out (by decide)) BK480.out (by decide)).1 k_ hs_.symm).1.1.2) (fun hs_ => ((Kd.R_types (Kd.R_types (Kd.R_apart' (HO467.out) (Kd.R_typed HO456.out) (by decide)) BK453.out (by decide)) BK480.out (by decide)).1 k_ hs_.symm).1.1.2)) (fun hn_ => (Kd.fresh' (Kd.R_lt (R_ HO456.out)) k_ hn_)), Or.elim hk_ (fun hs_ => Or.elim hs_ (fun hs_ => ((Kd.R_types (Kd.R_types (Kd.R_apart' (HO464.out) (Kd.R_typed HO456.out) (by decide)) BK453.out (by decide)) BK480.out (by decide)).1 k_ hs_.symm).1.2) (fun hs_ => ((Kd.R_types (Kd.R_types (Kd.R_apart' (HO467.out) (Kd.R_typed HO456.out) (by decide)) BK453.out (by decide)) BK480.out (by decide)).1 k_ hs_.symm).1.2)) (fun hn_ => (Kd.freshB (g := gb453) (o := .cells #[.slice Ao41 t454.length co41, .int .i64 t457, .string t458, .string t459, .string t460, .string t461, .slice Ao43 t462.length co43, .slice Ao44 t465.length co44, .bool t468] 35 (0, 0)) (blk_ BK453.out) k_ hn_)), Or.elim hk_ (fun hs_ => Or.elim hs_ (fun hs_ => ((Kd.R_types (Kd.R_types (Kd.R_apart' (HO464.out) (Kd.R_typed HO456.out) (by decide)) BK453.out (by decide)) BK480.out (by decide)).1 k_ hs_.symm).2) (fun hs_ => ((Kd.R_types (Kd.R_types (Kd.R_apart' (HO467.out) (Kd.R_typed HO456.out) (by decide)) BK453.out (by decide)) BK480.out (by decide)).1 k_ hs_.symm).2)) (fun hn_ => (Kd.freshB (g := gb480) (o := .cells #[.string t470, .string t471, .string t472, .slice Ao51 t473.length co51, .slice Ao52 t476.length co52] 33 (0, 0)) (blk_ BK480.out) k_ hn_))⟩)) (below_size (bel_ HB.out))); have n7_ := am_ (blk_below (g := gb453) (o := .cells #[.slice Ao41 t454.length co41, .int .i64 t457, .string t458, .string t459, .string t460, .string t461, .slice Ao43 t462.length co43, .slice Ao44 t465.length co44, .bool t468] 35 (0, 0)) (blk_ BK453.out) hb); have n8_ := am_ (blk_below (g := gb480) (o := .cells #[.string t470, .string t471, .string t472, .slice Ao51 t473.length co51, .slice Ao52 t476.length co52] 33 (0, 0)) (blk_ BK480.out) hb); have n9_ := am_ (below_step (bel_ HB.out) hb); clear HO456 HO464 HO467 HO475 HO478 BK453 BK480 HB; have HO456 := n0_; have HO464 := n1_; have HO467 := n2_; have HO475 := n3_; have HO478 := n4_; have HO488 := n5_; have HO491 := n6_; have BK453 := n7_; have BK480 := n8_; have HB := n9_; clear n0_ n1_ n2_ n3_ n4_ n5_ n6_ n7_ n8_ n9_; (try clear hb); (try clear hb2); (try clear hk); (try clear hi); (try clear ho0); (try clear ho1)) | ((with_reducible refine gate_dst (N := 7) rfl ?_); refine box_event ?hg (N := 7) ?hd (cs := #[.string (⟨#[]⟩ : ByteArray), .string (⟨#[]⟩ : ByteArray), .string (⟨#[]⟩ : ByteArray), .slice none 0 0, .slice none 0 0]) (t := 33) ?hr ?_; (case hd => rfl); (case hg => rfl); (case hr => first | (go_simp; done) | (go_simp; rfl)); intro gb493 hg w56 hbox hb; have n0_ := am_ (Kd.R_below (R_ HO456.out) hb); have n1_ := am_ (Kd.R_below (R_ HO464.out) hb); have n2_ := am_ (Kd.R_below (R_ HO467.out) hb); have n3_ := am_ (Kd.V_below (Kd.V_elderB (by (with_reducible repeat (first | apply Kd.V_alloc | apply Kd.V_drewN | apply Kd.V_drew)); exact HO475.out) gb493 (Nat.le_of_eq hg.symm)) hb); have n4_ := am_ (Kd.V_below (Kd.V_elderB (by (with_reducible repeat (first | apply Kd.V_alloc | apply Kd.V_drewN | apply Kd.V_drew)); exact HO478.out) gb493 (Nat.le_of_eq hg.symm)) hb); have n5_ := am_ (Kd.V_below (Kd.V_elderB (by (with_reducible repeat (first | apply Kd.V_alloc | apply Kd.V_drewN | apply Kd.V_drew)); exact HO488.out) gb493 (Nat.le_of_eq hg.symm)) hb); have n6_ := am_ (Kd.V_below (Kd.V_elderB (by (with_reducible repeat (first | apply Kd.V_alloc | apply Kd.V_drewN | apply Kd.V_drew)); exact HO491.out) gb493 (Nat.le_of_eq hg.symm)) hb); have n7_ := am_ (blk_below (g := gb453) (o := .cells #[.slice Ao41 t454.length co41, .int .i64 t457, .string t458, .string t459, .string t460, .string t461, .slice Ao43 t462.length co43, .slice Ao44 t465.length co44, .bool t468] 35 (0, 0)) (blk_ BK453.out) hb); have n8_ := am_ (blk_below (g := gb480) (o := .cells #[.string t470, .string t471, .string t472, .slice Ao51 t473.length co51, .slice Ao52 t476.length co52] 33 (0, 0)) (blk_ BK480.out) hb); have n9_ := am_ (below_step (bel_ HB.out) hb); have n10_ := am_ (hbox); have n11_ := am_ ((by rw [hg]; exact (below_size (bel_ HB.out)) : w.heap.size ≤ gb493)); have n12_ := am_ ((by rw [hg]; exact (below_size (bel_ HB.out)) : w.heap.size ≤ gb493)); have n13_ := am_ ((by rw [hg]; exact Nat.ne_of_lt (blk_lt (g := gb453) (o := .cells #[.slice Ao41 t454.length co41, .int .i64 t457, .string t458, .string t459, .string t460, .string t461, .slice Ao43 t462.length co43, .slice Ao44 t465.length co44, .bool t468] 35 (0, 0)) (blk_ BK453.out)) : gb453 ≠ gb493)); have n14_ := am_ ((by rw [hg]; exact Nat.ne_of_gt (blk_lt (g := gb453) (o := .cells #[.slice Ao41 t454.length co41, .int .i64 t457, .string t458, .string t459, .string t460, .string t461, .slice Ao43 t462.length co43, .slice Ao44 t465.length co44, .bool t468] 35 (0, 0)) (blk_ BK453.out)) : gb493 ≠ gb453)); have n15_ := am_ ((by rw [hg]; exact Nat.ne_of_lt (blk_lt (g := gb480) (o := .cells #[.string t470, .string t471, .string t472, .slice Ao51 t473.length co51, .slice Ao52 t476.length co52] 33 (0, 0)) (blk_ BK480.out)) : gb480 ≠ gb493)); have n16_ := am_ ((by rw [hg]; exact Nat.ne_of_gt (blk_lt (g := gb480) (o := .cells #[.string t470, .string t471, .string t472, .slice Ao51 t473.length co51, .slice Ao52 t476.length co52] 33 (0, 0)) (blk_ BK480.out)) : gb493 ≠ gb480)); clear HO456 HO464 HO467 HO475 HO478 HO488 HO491 BK453 BK480 HB; have HO456 := n0_; have HO464 := n1_; have HO467 := n2_; have HO475 := n3_; have HO478 := n4_; have HO488 := n5_; have HO491 := n6_; have BK453 := n7_; have BK480 := n8_; have HB := n9_; have BK493 := n10_; have GW493 := n11_; have GE493 := n12_; have NB453_493 := n13_; have NB493_453 := n14_; have NB480_493 := n15_; have NB493_480 := n16_; clear n0_ n1_ n2_ n3_ n4_ n5_ n6_ n7_ n8_ n9_ n10_ n11_ n12_ n13_ n14_ n15_ n16_ hb hbox hg; have hnb57 := NB493_453.out; have hnc57 := NB453_493.out; have hnb58 := NB493_480.out; have hnc58 := NB480_493.out; obtain ⟨hcz59_0, hcz59_1, hcz59_2, hcz59_3, hcz59_4, hfz59_0, hfz59_1, hfz59_2, hfz59_3, hfz59_4⟩ := blk5 BK493.out; obtain ⟨Ao60, co60, eo60⟩ := Kd.V_slice HO488.out; subst eo60; obtain ⟨Ao61, co61, eo61⟩ := Kd.V_slice HO491.out; subst eo61; obtain ⟨hcz62_0, hcz62_1, hcz62_2, hcz62_3, hcz62_4, hcz62_5, hcz62_6, hcz62_7, hcz62_8, hfz62_0, hfz62_1, hfz62_2, hfz62_3, hfz62_4, hfz62_5, hfz62_6, hfz62_7, hfz62_8⟩ := blk9 BK453.out))
   (try simp only [Act.put, List.setIfInBounds_toArray, List.set_cons_zero, List.set_cons_succ])
   go_cut [58] (fun v58 wc => ∃ (kq : Nat) (x58_36 : Bool), v58 = .bool x58_36 ∧ Aside0 (tolllaw07_FilterLeaves.j0 kq t469 x58_36 t454 t457 t458 t459 t460 t461 t462 t465 t468 t470 t471 t472 t473 t476 = some r) ∧ Aside0 (kq ≤ k) ∧ Aside0 (Kd.R k26 26 wc w.heap.size (fun _ => True) (.slice Ao41 t454.length co41) t454) ∧ Aside0 (Kd.R k59 59 wc w.heap.size (fun k_ => some k_ ≠ ((.slice Ao44 t465.length co44) : Value).ownBlock) (.slice Ao43 t462.length co43) t462) ∧ Aside0 (Kd.R k59 59 wc w.heap.size (fun k_ => some k_ ≠ ((.slice Ao43 t462.length co43) : Value).ownBlock) (.slice Ao44 t465.length co44) t465) ∧ Aside0 (Kd.V k59 59 wc w.heap.size (fun k_ => some k_ ≠ ((.slice Ao41 t454.length co41) : Value).ownBlock ∧ k_ ≠ gb453 ∧ k_ ≠ gb480 ∧ k_ ≠ gb493) (.slice Ao51 t473.length co51) t473) ∧ Aside0 (Kd.V k59 59 wc w.heap.size (fun k_ => some k_ ≠ ((.slice Ao41 t454.length co41) : Value).ownBlock ∧ k_ ≠ gb453 ∧ k_ ≠ gb480 ∧ k_ ≠ gb493) (.slice Ao52 t476.length co52) t476) ∧ Aside0 (Kd.V k59 59 wc w.heap.size (fun k_ => some k_ ≠ ((.slice Ao41 t454.length co41) : Value).ownBlock ∧ k_ ≠ gb453 ∧ k_ ≠ gb480 ∧ k_ ≠ gb493) (.slice Ao60 t486.length co60) t486) ∧ Aside0 (Kd.V k59 59 wc w.heap.size (fun k_ => some k_ ≠ ((.slice Ao41 t454.length co41) : Value).ownBlock ∧ k_ ≠ gb453 ∧ k_ ≠ gb480 ∧ k_ ≠ gb493) (.slice Ao61 t489.length co61) t489) ∧ Aside0 (wc.heap[gb453]? = some (.cells #[(.slice Ao41 t454.length co41), .int .i64 t457, .string t458, .string t459, .string t460, .string t461, (.slice Ao43 t462.length co43), (.slice Ao44 t465.length co44), .bool t468] 35 (0, 0))) ∧ Aside0 (wc.heap[gb480]? = some (.cells #[.string t470, .string t471, .string t472, (.slice Ao51 t473.length co51), (.slice Ao52 t476.length co52)] 33 (0, 0))) ∧ Aside0 (wc.heap[gb493]? = some (.cells #[.string t483, .string t484, .string t485, (.slice Ao60 t486.length co60), (.slice Ao61 t489.length co61)] 33 (0, 0))) ∧ Aside0 (Below w.heap.size w wc))
   case first =>
    have H := HC37.out
    clear HC37
    replace H := Option.bind_eq_some_iff.mp H
    obtain ⟨t495, A630, H⟩ := H
    replace H : (if t495 = true then (tolllaw07_FilterLeaves.j0 k t469 (t492 != 0) t454 t457 t458 t459 t460 t461 t462 t465 t468 t470 t471 t472 t473 t476) else (none)) = some r := H
    have A63 := Aside0.mk A630
    clear A630
    by_cases c64 : t495 = true
    ·subst c64
     have H1 : (tolllaw07_FilterLeaves.j0 k t469 (t492 != 0) t454 t457 t458 t459 t460 t461 t462 t465 t468 t470 t471 t472 t473 t476) = some r := by rw [if_pos rfl] at H; exact H
     clear H
     have H := H1
     clear H1
     have H' := Aside0.mk H
     clear H
     have hnb65 := NB493_453.out
     have hnc65 := NB453_493.out
     have hnb66 := NB493_480.out
     have hnc66 := NB480_493.out
     obtain ⟨hcz67_0, hcz67_1, hcz67_2, hcz67_3, hcz67_4, hfz67_0, hfz67_1, hfz67_2, hfz67_3, hfz67_4⟩ := blk5 BK493.out
     have hnb68 := NB453_480.out
     have hnc68 := NB480_453.out
     obtain ⟨hcz69_0, hcz69_1, hcz69_2, hcz69_3, hcz69_4, hcz69_5, hcz69_6, hcz69_7, hcz69_8, hfz69_0, hfz69_1, hfz69_2, hfz69_3, hfz69_4, hfz69_5, hfz69_6, hfz69_7, hfz69_8⟩ := blk9 BK453.out
     go_wp2_with (first | ((with_reducible refine gate_callee (f := 21) rfl ?_); refine goesL_ (some 53) rfl rfl Tryz.func21 kr_ rfl #[.agg #[.string t483, .string t484, .string t485, .slice Ao60 t486.length co60, .slice Ao61 t489.length co61], .agg #[.string t459, .string t460, .string t461, .slice Ao43 t462.length co43, .slice Ao44 t465.length co44]] rfl rl_ ?_; (with_reducible refine (tollref07_SameAsk.calls k t483 t484 t485 _ _ t486 _ _ t489 t459 t460 t461 _ _ t462 _ _ t465 true _ ?side1 ?side2 ?side3 ?side4 ?side5 ?side6 ?side7 ?side8 A63.out).mono ?_); (case side1 => refine (Kd.V_reads' (e := 59) (base := w.heap.size) (ok := fun k_ => ((some k_ ≠ (.slice Ao41 t454.length co41 : Value).ownBlock ∧ (k_ ≠ gb453 ∧ k_ ≠ gb480)) ∧ k_ ≠ gb493)) (n := t486.length) (c := co60) ?_).2.2; exact (by (with_reducible repeat (first | apply Kd.V_alloc | apply Kd.V_drewN | apply Kd.V_drew)); exact (Kd.V_mono (Kd.V_far (p := ⟨gb493, 4, none⟩) (Kd.V_far (p := ⟨gb493, 3, none⟩) (Kd.V_far (p := ⟨gb493, 2, none⟩) (Kd.V_far (p := ⟨gb493, 1, none⟩) (Kd.V_far (p := ⟨gb493, 0, none⟩) (Kd.V_mono HO488.out (fun k_ hk => (⟨hk, hk.2⟩ : _ ∧ k_ ≠ gb493))) (fun _ hk => hk.2) (.string t483)) (fun _ hk => hk.2) (.string t484)) (fun _ hk => hk.2) (.string t485)) (fun _ hk => hk.2) (.slice Ao60 t486.length co60)) (fun _ hk => hk.2) (.slice Ao61 t489.length co61)) (fun _ h_ => h_.1)))); (case side2 => exact (Kd.V_reads' HO488.out).2.1); (case side3 => refine (Kd.V_reads' (e := 59) (base := w.heap.size) (ok := fun k_ => ((some k_ ≠ (.slice Ao41 t454.length co41 : Value).ownBlock ∧ (k_ ≠ gb453 ∧ k_ ≠ gb480)) ∧ k_ ≠ gb493)) (n := t489.length) (c := co61) ?_).2.2; exact (by (with_reducible repeat (first | apply Kd.V_alloc | apply Kd.V_drewN | apply Kd.V_drew)); exact (Kd.V_mono (Kd.V_far (p := ⟨gb493, 4, none⟩) (Kd.V_far (p := ⟨gb493, 3, none⟩) (Kd.V_far (p := ⟨gb493, 2, none⟩) (Kd.V_far (p := ⟨gb493, 1, none⟩) (Kd.V_far (p := ⟨gb493, 0, none⟩) (Kd.V_mono HO491.out (fun k_ hk => (⟨hk, hk.2⟩ : _ ∧ k_ ≠ gb493))) (fun _ hk => hk.2) (.string t483)) (fun _ hk => hk.2) (.string t484)) (fun _ hk => hk.2) (.string t485)) (fun _ hk => hk.2) (.slice Ao60 t486.length co60)) (fun _ hk => hk.2) (.slice Ao61 t489.length co61)) (fun _ h_ => h_.1)))); (case side4 => exact (Kd.V_reads' HO491.out).2.1); (case side5 => refine (Kd.R_reads' (e := 59) (base := w.heap.size) (ok := fun k_ => some k_ ≠ (.slice Ao44 t465.length co44 : Value).ownBlock) (n := t462.length) (c := co43) ?_).2.2; exact (by (with_reducible repeat (first | apply Kd.R_alloc | apply Kd.R_drewN | apply Kd.R_drew)); exact (Kd.R_mono (Kd.R_far (p := ⟨gb493, 4, none⟩) (Kd.R_far (p := ⟨gb493, 3, none⟩) (Kd.R_far (p := ⟨gb493, 2, none⟩) (Kd.R_far (p := ⟨gb493, 1, none⟩) (Kd.R_far (p := ⟨gb493, 0, none⟩) (Kd.R_types HO464.out BK493.out (by decide)) (fun _ hk => hk.2) (.string t483)) (fun _ hk => hk.2) (.string t484)) (fun _ hk => hk.2) (.string t485)) (fun _ hk => hk.2) (.slice Ao60 t486.length co60)) (fun _ hk => hk.2) (.slice Ao61 t489.length co61)) (fun _ h_ => h_.1)))); (case side6 => exact (Kd.R_reads' HO464.out).2.1); (case side7 => refine (Kd.R_reads' (e := 59) (base := w.heap.size) (ok := fun k_ => some k_ ≠ (.slice Ao43 t462.length co43 : Value).ownBlock) (n := t465.length) (c := co44) ?_).2.2; exact (by (with_reducible repeat (first | apply Kd.R_alloc | apply Kd.R_drewN | apply Kd.R_drew)); exact (Kd.R_mono (Kd.R_far (p := ⟨gb493, 4, none⟩) (Kd.R_far (p := ⟨gb493, 3, none⟩) (Kd.R_far (p := ⟨gb493, 2, none⟩) (Kd.R_far (p := ⟨gb493, 1, none⟩) (Kd.R_far (p := ⟨gb493, 0, none⟩) (Kd.R_types HO467.out BK493.out (by decide)) (fun _ hk => hk.2) (.string t483)) (fun _ hk => hk.2) (.string t484)) (fun _ hk => hk.2) (.string t485)) (fun _ hk => hk.2) (.slice Ao60 t486.length co60)) (fun _ hk => hk.2) (.slice Ao61 t489.length co61)) (fun _ h_ => h_.1)))); (case side8 => exact (Kd.R_reads' HO467.out).2.1); rintro e w70 ⟨rfl, hb⟩; refine ⟨_, rfl, ?_⟩; have n0_ := am_ (Kd.R_below (by (with_reducible repeat (first | apply Kd.R_alloc | apply Kd.R_drewN | apply Kd.R_drew)); exact (Kd.R_mono (Kd.R_far (p := ⟨gb493, 4, none⟩) (Kd.R_far (p := ⟨gb493, 3, none⟩) (Kd.R_far (p := ⟨gb493, 2, none⟩) (Kd.R_far (p := ⟨gb493, 1, none⟩) (Kd.R_far (p := ⟨gb493, 0, none⟩) (Kd.R_types HO456.out BK493.out (by decide)) (fun _ hk => hk.2) (.string t483)) (fun _ hk => hk.2) (.string t484)) (fun _ hk => hk.2) (.string t485)) (fun _ hk => hk.2) (.slice Ao60 t486.length co60)) (fun _ hk => hk.2) (.slice Ao61 t489.length co61)) (fun _ h_ => h_.1))) hb); have n1_ := am_ (Kd.R_below (by (with_reducible repeat (first | apply Kd.R_alloc | apply Kd.R_drewN | apply Kd.R_drew)); exact (Kd.R_mono (Kd.R_far (p := ⟨gb493, 4, none⟩) (Kd.R_far (p := ⟨gb493, 3, none⟩) (Kd.R_far (p := ⟨gb493, 2, none⟩) (Kd.R_far (p := ⟨gb493, 1, none⟩) (Kd.R_far (p := ⟨gb493, 0, none⟩) (Kd.R_types HO464.out BK493.out (by decide)) (fun _ hk => hk.2) (.string t483)) (fun _ hk => hk.2) (.string t484)) (fun _ hk => hk.2) (.string t485)) (fun _ hk => hk.2) (.slice Ao60 t486.length co60)) (fun _ hk => hk.2) (.slice Ao61 t489.length co61)) (fun _ h_ => h_.1))) hb); have n2_ := am_ (Kd.R_below (by (with_reducible repeat (first | apply Kd.R_alloc | apply Kd.R_drewN | apply Kd.R_drew)); exact (Kd.R_mono (Kd.R_far (p := ⟨gb493, 4, none⟩) (Kd.R_far (p := ⟨gb493, 3, none⟩) (Kd.R_far (p := ⟨gb493, 2, none⟩) (Kd.R_far (p := ⟨gb493, 1, none⟩) (Kd.R_far (p := ⟨gb493, 0, none⟩) (Kd.R_types HO467.out BK493.out (by decide)) (fun _ hk => hk.2) (.string t483)) (fun _ hk => hk.2) (.string t484)) (fun _ hk => hk.2) (.string t485)) (fun _ hk => hk.2) (.slice Ao60 t486.length co60)) (fun _ hk => hk.2) (.slice Ao61 t489.length co61)) (fun _ h_ => h_.1))) hb); have n3_ := am_ (Kd.V_below (by (with_reducible repeat (first | apply Kd.V_alloc | apply Kd.V_drewN | apply Kd.V_drew)); exact (Kd.V_mono (Kd.V_far (p := ⟨gb493, 4, none⟩) (Kd.V_far (p := ⟨gb493, 3, none⟩) (Kd.V_far (p := ⟨gb493, 2, none⟩) (Kd.V_far (p := ⟨gb493, 1, none⟩) (Kd.V_far (p := ⟨gb493, 0, none⟩) (Kd.V_mono HO475.out (fun k_ hk => (⟨hk, hk.2⟩ : _ ∧ k_ ≠ gb493))) (fun _ hk => hk.2) (.string t483)) (fun _ hk => hk.2) (.string t484)) (fun _ hk => hk.2) (.string t485)) (fun _ hk => hk.2) (.slice Ao60 t486.length co60)) (fun _ hk => hk.2) (.slice Ao61 t489.length co61)) (fun _ h_ => h_.1))) hb); have n4_ := am_ (Kd.V_below (by (with_reducible repeat (first | apply Kd.V_alloc | apply Kd.V_drewN | apply Kd.V_drew)); exact (Kd.V_mono (Kd.V_far (p := ⟨gb493, 4, none⟩) (Kd.V_far (p := ⟨gb493, 3, none⟩) (Kd.V_far (p := ⟨gb493, 2, none⟩) (Kd.V_far (p := ⟨gb493, 1, none⟩) (Kd.V_far (p := ⟨gb493, 0, none⟩) (Kd.V_mono HO478.out (fun k_ hk => (⟨hk, hk.2⟩ : _ ∧ k_ ≠ gb493))) (fun _ hk => hk.2) (.string t483)) (fun _ hk => hk.2) (.string t484)) (fun _ hk => hk.2) (.string t485)) (fun _ hk => hk.2) (.slice Ao60 t486.length co60)) (fun _ hk => hk.2) (.slice Ao61 t489.length co61)) (fun _ h_ => h_.1))) hb); have n5_ := am_ (Kd.V_below (by (with_reducible repeat (first | apply Kd.V_alloc | apply Kd.V_drewN | apply Kd.V_drew)); exact (Kd.V_mono (Kd.V_far (p := ⟨gb493, 4, none⟩) (Kd.V_far (p := ⟨gb493, 3, none⟩) (Kd.V_far (p := ⟨gb493, 2, none⟩) (Kd.V_far (p := ⟨gb493, 1, none⟩) (Kd.V_far (p := ⟨gb493, 0, none⟩) (Kd.V_mono HO488.out (fun k_ hk => (⟨hk, hk.2⟩ : _ ∧ k_ ≠ gb493))) (fun _ hk => hk.2) (.string t483)) (fun _ hk => hk.2) (.string t484)) (fun _ hk => hk.2) (.string t485)) (fun _ hk => hk.2) (.slice Ao60 t486.length co60)) (fun _ hk => hk.2) (.slice Ao61 t489.length co61)) (fun _ h_ => h_.1))) hb); have n6_ := am_ (Kd.V_below (by (with_reducible repeat (first | apply Kd.V_alloc | apply Kd.V_drewN | apply Kd.V_drew)); exact (Kd.V_mono (Kd.V_far (p := ⟨gb493, 4, none⟩) (Kd.V_far (p := ⟨gb493, 3, none⟩) (Kd.V_far (p := ⟨gb493, 2, none⟩) (Kd.V_far (p := ⟨gb493, 1, none⟩) (Kd.V_far (p := ⟨gb493, 0, none⟩) (Kd.V_mono HO491.out (fun k_ hk => (⟨hk, hk.2⟩ : _ ∧ k_ ≠ gb493))) (fun _ hk => hk.2) (.string t483)) (fun _ hk => hk.2) (.string t484)) (fun _ hk => hk.2) (.string t485)) (fun _ hk => hk.2) (.slice Ao60 t486.length co60)) (fun _ hk => hk.2) (.slice Ao61 t489.length co61)) (fun _ h_ => h_.1))) hb); have n7_ := am_ (blk_below (g := gb453) (o := .cells #[.slice Ao41 t454.length co41, .int .i64 t457, .string t458, .string t459, .string t460, .string t461, .slice Ao43 t462.length co43, .slice Ao44 t465.length co44, .bool t468] 35 (0, 0)) (by (with_reducible repeat (first | refine blk_drewN ?_ _ | refine blk_drew ?_ | refine blk_alloc ?_ _)); refine blk_far ?_ NB453_493.out _; (with_reducible repeat (first | refine blk_drewN ?_ _ | refine blk_drew ?_ | refine blk_alloc ?_ _)); refine blk_far ?_ NB453_493.out _; (with_reducible repeat (first | refine blk_drewN ?_ _ | refine blk_drew ?_ | refine blk_alloc ?_ _)); refine blk_far ?_ NB453_493.out _; (with_reducible repeat (first | refine blk_drewN ?_ _ | refine blk_drew ?_ | refine blk_alloc ?_ _)); refine blk_far ?_ NB453_493.out _; (with_reducible repeat (first | refine blk_drewN ?_ _ | refine blk_drew ?_ | refine blk_alloc ?_ _)); refine blk_far ?_ NB453_493.out _; (with_reducible repeat (first | refine blk_drewN ?_ _ | refine blk_drew ?_ | refine blk_alloc ?_ _)); exact BK453.out) hb); have n8_ := am_ (blk_below (g := gb480) (o := .cells #[.string t470, .string t471, .string t472, .slice Ao51 t473.length co51, .slice Ao52 t476.length co52] 33 (0, 0)) (by (with_reducible repeat (first | refine blk_drewN ?_ _ | refine blk_drew ?_ | refine blk_alloc ?_ _)); refine blk_far ?_ NB480_493.out _; (with_reducible repeat (first | refine blk_drewN ?_ _ | refine blk_drew ?_ | refine blk_alloc ?_ _)); refine blk_far ?_ NB480_493.out _; (with_reducible repeat (first | refine blk_drewN ?_ _ | refine blk_drew ?_ | refine blk_alloc ?_ _)); refine blk_far ?_ NB480_493.out _; (with_reducible repeat (first | refine blk_drewN ?_ _ | refine blk_drew ?_ | refine blk_alloc ?_ _)); refine blk_far ?_ NB480_493.out _; (with_reducible repeat (first | refine blk_drewN ?_ _ | refine blk_drew ?_ | refine blk_alloc ?_ _)); refine blk_far ?_ NB480_493.out _; (with_reducible repeat (first | refine blk_drewN ?_ _ | refine blk_drew ?_ | refine blk_alloc ?_ _)); exact BK480.out) hb); have n9_ := am_ (blk_below (g := gb493) (o := .cells #[.string t483, .string t484, .string t485, .slice Ao60 t486.length co60, .slice Ao61 t489.length co61] 33 (0, 0)) (by (with_reducible repeat (first | refine blk_drewN ?_ _ | refine blk_drew ?_ | refine blk_alloc ?_ _)); refine blk_put (cs := #[.string t483, .string t484, .string t485, .slice Ao60 t486.length co60, .slice none 0 0]) ?_ 4 _ rfl; (with_reducible repeat (first | refine blk_drewN ?_ _ | refine blk_drew ?_ | refine blk_alloc ?_ _)); refine blk_put (cs := #[.string t483, .string t484, .string t485, .slice none 0 0, .slice none 0 0]) ?_ 3 _ rfl; (with_reducible repeat (first | refine blk_drewN ?_ _ | refine blk_drew ?_ | refine blk_alloc ?_ _)); refine blk_put (cs := #[.string t483, .string t484, .string (⟨#[]⟩ : ByteArray), .slice none 0 0, .slice none 0 0]) ?_ 2 _ rfl; (with_reducible repeat (first | refine blk_drewN ?_ _ | refine blk_drew ?_ | refine blk_alloc ?_ _)); refine blk_put (cs := #[.string t483, .string (⟨#[]⟩ : ByteArray), .string (⟨#[]⟩ : ByteArray), .slice none 0 0, .slice none 0 0]) ?_ 1 _ rfl; (with_reducible repeat (first | refine blk_drewN ?_ _ | refine blk_drew ?_ | refine blk_alloc ?_ _)); refine blk_put (cs := #[.string (⟨#[]⟩ : ByteArray), .string (⟨#[]⟩ : ByteArray), .string (⟨#[]⟩ : ByteArray), .slice none 0 0, .slice none 0 0]) ?_ 0 _ rfl; (with_reducible repeat (first | refine blk_drewN ?_ _ | refine blk_drew ?_ | refine blk_alloc ?_ _)); exact BK493.out) hb); have n10_ := am_ (below_step (bel_ HB.out) hb); clear HO456 HO464 HO467 HO475 HO478 HO488 HO491 BK453 BK480 BK493 HB; have HO456 := n0_; have HO464 := n1_; have HO467 := n2_; have HO475 := n3_; have HO478 := n4_; have HO488 := n5_; have HO491 := n6_; have BK453 := n7_; have BK480 := n8_; have BK493 := n9_; have HB := n10_; clear n0_ n1_ n2_ n3_ n4_ n5_ n6_ n7_ n8_ n9_ n10_; (try clear hb); (try clear hb2); (try clear hk); (try clear hi)))
     go_meet
     case rel => exact ⟨_, ((t492 != 0)), sd_, H', ⟨by first | omega | exact Nat.le_refl _⟩, ⟨by (with_reducible repeat (first | apply Kd.R_alloc | apply Kd.R_drewN | apply Kd.R_drew)); exact HO456.out⟩, ⟨by (with_reducible repeat (first | apply Kd.R_alloc | apply Kd.R_drewN | apply Kd.R_drew)); exact HO464.out⟩, ⟨by (with_reducible repeat (first | apply Kd.R_alloc | apply Kd.R_drewN | apply Kd.R_drew)); exact HO467.out⟩, ⟨by (with_reducible repeat (first | apply Kd.V_alloc | apply Kd.V_drewN | apply Kd.V_drew)); exact Kd.V_mono HO475.out (fun _ hk => ⟨hk.1.1, ⟨hk.1.2.1, ⟨hk.1.2.2, hk.2⟩⟩⟩)⟩, ⟨by (with_reducible repeat (first | apply Kd.V_alloc | apply Kd.V_drewN | apply Kd.V_drew)); exact Kd.V_mono HO478.out (fun _ hk => ⟨hk.1.1, ⟨hk.1.2.1, ⟨hk.1.2.2, hk.2⟩⟩⟩)⟩, ⟨by (with_reducible repeat (first | apply Kd.V_alloc | apply Kd.V_drewN | apply Kd.V_drew)); exact Kd.V_mono HO488.out (fun _ hk => ⟨hk.1.1, ⟨hk.1.2.1, ⟨hk.1.2.2, hk.2⟩⟩⟩)⟩, ⟨by (with_reducible repeat (first | apply Kd.V_alloc | apply Kd.V_drewN | apply Kd.V_drew)); exact Kd.V_mono HO491.out (fun _ hk => ⟨hk.1.1, ⟨hk.1.2.1, ⟨hk.1.2.2, hk.2⟩⟩⟩)⟩, ⟨by (with_reducible repeat (first | refine blk_drewN ?_ _ | refine blk_drew ?_ | refine blk_alloc ?_ _)); exact BK453.out⟩, ⟨by (with_reducible repeat (first | refine blk_drewN ?_ _ | refine blk_drew ?_ | refine blk_alloc ?_ _)); exact BK480.out⟩, ⟨by (with_reducible repeat (first | refine blk_drewN ?_ _ | refine blk_drew ?_ | refine blk_alloc ?_ _)); exact BK493.out⟩, ⟨bel_ HB.out⟩⟩
    ·replace c64 := Bool.eq_false_iff.mpr c64
     subst c64
     have H1 : (none) = some r := by rw [if_neg (show ¬ (false = true) by decide)] at H; exact H
     clear H
     have H := H1
     clear H1
     exact absurd H (by simp)
   case rest =>
    clear HC37
    try clear c1
    try clear c2
    try clear p2
    try clear c3
    try clear c4
    try clear c5
    try clear c6
    try clear c6b0
    try clear c6b1
    try clear c8
    try clear c8b0
    try clear c8b1
    try clear c9
    try clear c9b0
    try clear c9b1
    try clear c15
    try clear c17
    try clear c21
    try clear c22
    try clear c30
    try clear c31
    try clear c49
    try clear c57
    try clear c58
    try clear c64
    try clear c65
    try clear c66
    try clear c68
    try clear hcz12_0
    try clear hcz12_1
    try clear hcz12_2
    try clear hcz12_3
    try clear hcz12_4
    try clear hcz12_5
    try clear hcz12_6
    try clear hcz12_7
    try clear hcz12_8
    try clear hcz15_0
    try clear hcz15_1
    try clear hcz15_2
    try clear hcz15_3
    try clear hcz15_4
    try clear hcz15_5
    try clear hcz15_6
    try clear hcz15_7
    try clear hcz15_8
    try clear hcz19_0
    try clear hcz19_1
    try clear hcz19_2
    try clear hcz19_3
    try clear hcz19_4
    try clear hcz19_5
    try clear hcz19_6
    try clear hcz19_7
    try clear hcz19_8
    try clear hcz23_0
    try clear hcz23_1
    try clear hcz23_2
    try clear hcz23_3
    try clear hcz23_4
    try clear hcz27_0
    try clear hcz27_1
    try clear hcz27_2
    try clear hcz27_3
    try clear hcz27_4
    try clear hcz27_5
    try clear hcz27_6
    try clear hcz27_7
    try clear hcz27_8
    try clear hcz32_0
    try clear hcz32_1
    try clear hcz32_2
    try clear hcz32_3
    try clear hcz32_4
    try clear hcz35_0
    try clear hcz35_1
    try clear hcz35_2
    try clear hcz35_3
    try clear hcz35_4
    try clear hcz35_5
    try clear hcz35_6
    try clear hcz35_7
    try clear hcz35_8
    try clear hcz39_0
    try clear hcz39_1
    try clear hcz39_2
    try clear hcz39_3
    try clear hcz39_4
    try clear hcz39_5
    try clear hcz39_6
    try clear hcz39_7
    try clear hcz39_8
    try clear hcz42_0
    try clear hcz42_1
    try clear hcz42_2
    try clear hcz42_3
    try clear hcz42_4
    try clear hcz42_5
    try clear hcz42_6
    try clear hcz42_7
    try clear hcz42_8
    try clear hcz46_0
    try clear hcz46_1
    try clear hcz46_2
    try clear hcz46_3
    try clear hcz46_4
    try clear hcz46_5
    try clear hcz46_6
    try clear hcz46_7
    try clear hcz46_8
    try clear hcz50_0
    try clear hcz50_1
    try clear hcz50_2
    try clear hcz50_3
    try clear hcz50_4
    try clear hcz54_0
    try clear hcz54_1
    try clear hcz54_2
    try clear hcz54_3
    try clear hcz54_4
    try clear hcz54_5
    try clear hcz54_6
    try clear hcz54_7
    try clear hcz54_8
    try clear hcz59_0
    try clear hcz59_1
    try clear hcz59_2
    try clear hcz59_3
    try clear hcz59_4
    try clear hcz62_0
    try clear hcz62_1
    try clear hcz62_2
    try clear hcz62_3
    try clear hcz62_4
    try clear hcz62_5
    try clear hcz62_6
    try clear hcz62_7
    try clear hcz62_8
    try clear hcz67_0
    try clear hcz67_1
    try clear hcz67_2
    try clear hcz67_3
    try clear hcz67_4
    try clear hcz69_0
    try clear hcz69_1
    try clear hcz69_2
    try clear hcz69_3
    try clear hcz69_4
    try clear hcz69_5
    try clear hcz69_6
    try clear hcz69_7
    try clear hcz69_8
    try clear hfz12_0
    try clear hfz12_1
    try clear hfz12_2
    try clear hfz12_3
    try clear hfz12_4
    try clear hfz12_5
    try clear hfz12_6
    try clear hfz12_7
    try clear hfz12_8
    try clear hfz15_0
    try clear hfz15_1
    try clear hfz15_2
    try clear hfz15_3
    try clear hfz15_4
    try clear hfz15_5
    try clear hfz15_6
    try clear hfz15_7
    try clear hfz15_8
    try clear hfz19_0
    try clear hfz19_1
    try clear hfz19_2
    try clear hfz19_3
    try clear hfz19_4
    try clear hfz19_5
    try clear hfz19_6
    try clear hfz19_7
    try clear hfz19_8
    try clear hfz23_0
    try clear hfz23_1
    try clear hfz23_2
    try clear hfz23_3
    try clear hfz23_4
    try clear hfz27_0
    try clear hfz27_1
    try clear hfz27_2
    try clear hfz27_3
    try clear hfz27_4
    try clear hfz27_5
    try clear hfz27_6
    try clear hfz27_7
    try clear hfz27_8
    try clear hfz32_0
    try clear hfz32_1
    try clear hfz32_2
    try clear hfz32_3
    try clear hfz32_4
    try clear hfz35_0
    try clear hfz35_1
    try clear hfz35_2
    try clear hfz35_3
    try clear hfz35_4
    try clear hfz35_5
    try clear hfz35_6
    try clear hfz35_7
    try clear hfz35_8
    try clear hfz39_0
    try clear hfz39_1
    try clear hfz39_2
    try clear hfz39_3
    try clear hfz39_4
    try clear hfz39_5
    try clear hfz39_6
    try clear hfz39_7
    try clear hfz39_8
    try clear hfz42_0
    try clear hfz42_1
    try clear hfz42_2
    try clear hfz42_3
    try clear hfz42_4
    try clear hfz42_5
    try clear hfz42_6
    try clear hfz42_7
    try clear hfz42_8
    try clear hfz46_0
    try clear hfz46_1
    try clear hfz46_2
    try clear hfz46_3
    try clear hfz46_4
    try clear hfz46_5
    try clear hfz46_6
    try clear hfz46_7
    try clear hfz46_8
    try clear hfz50_0
    try clear hfz50_1
    try clear hfz50_2
    try clear hfz50_3
    try clear hfz50_4
    try clear hfz54_0
    try clear hfz54_1
    try clear hfz54_2
    try clear hfz54_3
    try clear hfz54_4
    try clear hfz54_5
    try clear hfz54_6
    try clear hfz54_7
    try clear hfz54_8
    try clear hfz59_0
    try clear hfz59_1
    try clear hfz59_2
    try clear hfz59_3
    try clear hfz59_4
    try clear hfz62_0
    try clear hfz62_1
    try clear hfz62_2
    try clear hfz62_3
    try clear hfz62_4
    try clear hfz62_5
    try clear hfz62_6
    try clear hfz62_7
    try clear hfz62_8
    try clear hfz67_0
    try clear hfz67_1
    try clear hfz67_2
    try clear hfz67_3
    try clear hfz67_4
    try clear hfz69_0
    try clear hfz69_1
    try clear hfz69_2
    try clear hfz69_3
    try clear hfz69_4
    try clear hfz69_5
    try clear hfz69_6
    try clear hfz69_7
    try clear hfz69_8
    obtain ⟨kq, x58_36, rfl, HA, HJ36, HO_454000, HO_454006, HO_454007, HO_481003, HO_481004, HO_494003, HO_494004, BK453, BK480, BK493, HB⟩ := hcut
    cases kq with
    | zero => exact absurd HA.out (by simp [tolllaw07_FilterLeaves.j0])
    | succ kj36 =>
     have H := HA.out
     clear HA
     simp only [tolllaw07_FilterLeaves.j0] at H
     by_cases c71 : x58_36 = true
     ·subst c71
      have H1 : (none) = some r := by rw [if_pos rfl] at H; exact H
      clear H
      have H := H1
      clear H1
      exact absurd H (by simp)
     ·replace c71 := Bool.eq_false_iff.mpr c71
      subst c71
      have H1 : (tolllaw07_FilterLeaves.l0 kj36 t469 0 t454 t457 t458 t459 t460 t461 t462 t465 t468 t470 t471 t472 t473 t476) = some r := by rw [if_neg (show ¬ (false = true) by decide)] at H; exact H
      clear H
      have H := H1
      clear H1
      have H' := Aside0.mk H
      clear H
      go_wp2
      go_loopg [9] kj36 (fun kq v9 w' => ∃ (x9_2 : Int), v9 = .int .i64 x9_2 ∧ Aside0 (tolllaw07_FilterLeaves.l0 kq t469 x9_2 t454 t457 t458 t459 t460 t461 t462 t465 t468 t470 t471 t472 t473 t476 = some r) ∧ Aside0 (kq ≤ kj36) ∧ Aside0 (Kd.R k26 26 w' w.heap.size (fun _ => True) (.slice Ao41 t454.length co41) t454) ∧ Aside0 (Kd.R k59 59 w' w.heap.size (fun k_ => some k_ ≠ ((.slice Ao44 t465.length co44) : Value).ownBlock) (.slice Ao43 t462.length co43) t462) ∧ Aside0 (Kd.R k59 59 w' w.heap.size (fun k_ => some k_ ≠ ((.slice Ao43 t462.length co43) : Value).ownBlock) (.slice Ao44 t465.length co44) t465) ∧ Aside0 (Kd.V k59 59 w' w.heap.size (fun k_ => some k_ ≠ ((.slice Ao41 t454.length co41) : Value).ownBlock ∧ k_ ≠ gb453 ∧ k_ ≠ gb480 ∧ k_ ≠ gb493) (.slice Ao51 t473.length co51) t473) ∧ Aside0 (Kd.V k59 59 w' w.heap.size (fun k_ => some k_ ≠ ((.slice Ao41 t454.length co41) : Value).ownBlock ∧ k_ ≠ gb453 ∧ k_ ≠ gb480 ∧ k_ ≠ gb493) (.slice Ao52 t476.length co52) t476) ∧ Aside0 (Kd.V k59 59 w' w.heap.size (fun k_ => some k_ ≠ ((.slice Ao41 t454.length co41) : Value).ownBlock ∧ k_ ≠ gb453 ∧ k_ ≠ gb480 ∧ k_ ≠ gb493) (.slice Ao60 t486.length co60) t486) ∧ Aside0 (Kd.V k59 59 w' w.heap.size (fun k_ => some k_ ≠ ((.slice Ao41 t454.length co41) : Value).ownBlock ∧ k_ ≠ gb453 ∧ k_ ≠ gb480 ∧ k_ ≠ gb493) (.slice Ao61 t489.length co61) t489) ∧ Aside0 (w'.heap[gb453]? = some (.cells #[(.slice Ao41 t454.length co41), .int .i64 t457, .string t458, .string t459, .string t460, .string t461, (.slice Ao43 t462.length co43), (.slice Ao44 t465.length co44), .bool t468] 35 (0, 0))) ∧ Aside0 (w'.heap[gb480]? = some (.cells #[.string t470, .string t471, .string t472, (.slice Ao51 t473.length co51), (.slice Ao52 t476.length co52)] 33 (0, 0))) ∧ Aside0 (w'.heap[gb493]? = some (.cells #[.string t483, .string t484, .string t485, (.slice Ao60 t486.length co60), (.slice Ao61 t489.length co61)] 33 (0, 0))) ∧ Aside0 (Below w.heap.size w w'))
      case atStart => exact ⟨(0), sd_, H', ⟨Nat.le_refl _⟩, ⟨by (with_reducible repeat (first | apply Kd.R_alloc | apply Kd.R_drewN | apply Kd.R_drew)); exact HO_454000.out⟩, ⟨by (with_reducible repeat (first | apply Kd.R_alloc | apply Kd.R_drewN | apply Kd.R_drew)); exact HO_454006.out⟩, ⟨by (with_reducible repeat (first | apply Kd.R_alloc | apply Kd.R_drewN | apply Kd.R_drew)); exact HO_454007.out⟩, ⟨by (with_reducible repeat (first | apply Kd.V_alloc | apply Kd.V_drewN | apply Kd.V_drew)); exact HO_481003.out⟩, ⟨by (with_reducible repeat (first | apply Kd.V_alloc | apply Kd.V_drewN | apply Kd.V_drew)); exact HO_481004.out⟩, ⟨by (with_reducible repeat (first | apply Kd.V_alloc | apply Kd.V_drewN | apply Kd.V_drew)); exact HO_494003.out⟩, ⟨by (with_reducible repeat (first | apply Kd.V_alloc | apply Kd.V_drewN | apply Kd.V_drew)); exact HO_494004.out⟩, ⟨by (with_reducible repeat (first | refine blk_drewN ?_ _ | refine blk_drew ?_ | refine blk_alloc ?_ _)); exact BK453.out⟩, ⟨by (with_reducible repeat (first | refine blk_drewN ?_ _ | refine blk_drew ?_ | refine blk_alloc ?_ _)); exact BK480.out⟩, ⟨by (with_reducible repeat (first | refine blk_drewN ?_ _ | refine blk_drew ?_ | refine blk_alloc ?_ _)); exact BK493.out⟩, ⟨bel_ HB.out⟩⟩
      case round =>
       clear H'
       try clear c1
       try clear c2
       try clear p2
       try clear c3
       try clear c4
       try clear c5
       try clear c6
       try clear c6b0
       try clear c6b1
       try clear c7
       try clear c8
       try clear c8b0
       try clear c8b1
       try clear c9
       try clear c9b0
       try clear c9b1
       try clear c15
       try clear c17
       try clear c21
       try clear c22
       try clear c30
       try clear c31
       try clear c49
       try clear c57
       try clear c58
       try clear c64
       try clear c65
       try clear c66
       try clear c68
       try clear c71
       try clear hcz12_0
       try clear hcz12_1
       try clear hcz12_2
       try clear hcz12_3
       try clear hcz12_4
       try clear hcz12_5
       try clear hcz12_6
       try clear hcz12_7
       try clear hcz12_8
       try clear hcz15_0
       try clear hcz15_1
       try clear hcz15_2
       try clear hcz15_3
       try clear hcz15_4
       try clear hcz15_5
       try clear hcz15_6
       try clear hcz15_7
       try clear hcz15_8
       try clear hcz19_0
       try clear hcz19_1
       try clear hcz19_2
       try clear hcz19_3
       try clear hcz19_4
       try clear hcz19_5
       try clear hcz19_6
       try clear hcz19_7
       try clear hcz19_8
       try clear hcz23_0
       try clear hcz23_1
       try clear hcz23_2
       try clear hcz23_3
       try clear hcz23_4
       try clear hcz27_0
       try clear hcz27_1
       try clear hcz27_2
       try clear hcz27_3
       try clear hcz27_4
       try clear hcz27_5
       try clear hcz27_6
       try clear hcz27_7
       try clear hcz27_8
       try clear hcz32_0
       try clear hcz32_1
       try clear hcz32_2
       try clear hcz32_3
       try clear hcz32_4
       try clear hcz35_0
       try clear hcz35_1
       try clear hcz35_2
       try clear hcz35_3
       try clear hcz35_4
       try clear hcz35_5
       try clear hcz35_6
       try clear hcz35_7
       try clear hcz35_8
       try clear hcz39_0
       try clear hcz39_1
       try clear hcz39_2
       try clear hcz39_3
       try clear hcz39_4
       try clear hcz39_5
       try clear hcz39_6
       try clear hcz39_7
       try clear hcz39_8
       try clear hcz42_0
       try clear hcz42_1
       try clear hcz42_2
       try clear hcz42_3
       try clear hcz42_4
       try clear hcz42_5
       try clear hcz42_6
       try clear hcz42_7
       try clear hcz42_8
       try clear hcz46_0
       try clear hcz46_1
       try clear hcz46_2
       try clear hcz46_3
       try clear hcz46_4
       try clear hcz46_5
       try clear hcz46_6
       try clear hcz46_7
       try clear hcz46_8
       try clear hcz50_0
       try clear hcz50_1
       try clear hcz50_2
       try clear hcz50_3
       try clear hcz50_4
       try clear hcz54_0
       try clear hcz54_1
       try clear hcz54_2
       try clear hcz54_3
       try clear hcz54_4
       try clear hcz54_5
       try clear hcz54_6
       try clear hcz54_7
       try clear hcz54_8
       try clear hcz59_0
       try clear hcz59_1
       try clear hcz59_2
       try clear hcz59_3
       try clear hcz59_4
       try clear hcz62_0
       try clear hcz62_1
       try clear hcz62_2
       try clear hcz62_3
       try clear hcz62_4
       try clear hcz62_5
       try clear hcz62_6
       try clear hcz62_7
       try clear hcz62_8
       try clear hcz67_0
       try clear hcz67_1
       try clear hcz67_2
       try clear hcz67_3
       try clear hcz67_4
       try clear hcz69_0
       try clear hcz69_1
       try clear hcz69_2
       try clear hcz69_3
       try clear hcz69_4
       try clear hcz69_5
       try clear hcz69_6
       try clear hcz69_7
       try clear hcz69_8
       try clear hfz12_0
       try clear hfz12_1
       try clear hfz12_2
       try clear hfz12_3
       try clear hfz12_4
       try clear hfz12_5
       try clear hfz12_6
       try clear hfz12_7
       try clear hfz12_8
       try clear hfz15_0
       try clear hfz15_1
       try clear hfz15_2
       try clear hfz15_3
       try clear hfz15_4
       try clear hfz15_5
       try clear hfz15_6
       try clear hfz15_7
       try clear hfz15_8
       try clear hfz19_0
       try clear hfz19_1
       try clear hfz19_2
       try clear hfz19_3
       try clear hfz19_4
       try clear hfz19_5
       try clear hfz19_6
       try clear hfz19_7
       try clear hfz19_8
       try clear hfz23_0
       try clear hfz23_1
       try clear hfz23_2
       try clear hfz23_3
       try clear hfz23_4
       try clear hfz27_0
       try clear hfz27_1
       try clear hfz27_2
       try clear hfz27_3
       try clear hfz27_4
       try clear hfz27_5
       try clear hfz27_6
       try clear hfz27_7
       try clear hfz27_8
       try clear hfz32_0
       try clear hfz32_1
       try clear hfz32_2
       try clear hfz32_3
       try clear hfz32_4
       try clear hfz35_0
       try clear hfz35_1
       try clear hfz35_2
       try clear hfz35_3
       try clear hfz35_4
       try clear hfz35_5
       try clear hfz35_6
       try clear hfz35_7
       try clear hfz35_8
       try clear hfz39_0
       try clear hfz39_1
       try clear hfz39_2
       try clear hfz39_3
       try clear hfz39_4
       try clear hfz39_5
       try clear hfz39_6
       try clear hfz39_7
       try clear hfz39_8
       try clear hfz42_0
       try clear hfz42_1
       try clear hfz42_2
       try clear hfz42_3
       try clear hfz42_4
       try clear hfz42_5
       try clear hfz42_6
       try clear hfz42_7
       try clear hfz42_8
       try clear hfz46_0
       try clear hfz46_1
       try clear hfz46_2
       try clear hfz46_3
       try clear hfz46_4
       try clear hfz46_5
       try clear hfz46_6
       try clear hfz46_7
       try clear hfz46_8
       try clear hfz50_0
       try clear hfz50_1
       try clear hfz50_2
       try clear hfz50_3
       try clear hfz50_4
       try clear hfz54_0
       try clear hfz54_1
       try clear hfz54_2
       try clear hfz54_3
       try clear hfz54_4
       try clear hfz54_5
       try clear hfz54_6
       try clear hfz54_7
       try clear hfz54_8
       try clear hfz59_0
       try clear hfz59_1
       try clear hfz59_2
       try clear hfz59_3
       try clear hfz59_4
       try clear hfz62_0
       try clear hfz62_1
       try clear hfz62_2
       try clear hfz62_3
       try clear hfz62_4
       try clear hfz62_5
       try clear hfz62_6
       try clear hfz62_7
       try clear hfz62_8
       try clear hfz67_0
       try clear hfz67_1
       try clear hfz67_2
       try clear hfz67_3
       try clear hfz67_4
       try clear hfz69_0
       try clear hfz69_1
       try clear hfz69_2
       try clear hfz69_3
       try clear hfz69_4
       try clear hfz69_5
       try clear hfz69_6
       try clear hfz69_7
       try clear hfz69_8
       try clear p2
       obtain ⟨x9_2, rfl, HA, HK2, HO_454000, HO_454006, HO_454007, HO_481003, HO_481004, HO_494003, HO_494004, BK453, BK480, BK493, HB⟩ := hrel
       cases gk with
       | zero => exact absurd HA.out (by simp [tolllaw07_FilterLeaves.l0])
       | succ k2 =>
        have H := HA.out
        clear HA
        simp only [tolllaw07_FilterLeaves.l0] at H
        by_cases c72 : x9_2 < (t454.length : Int)
        ·rw [if_pos c72] at H
         have c72b0 : decide (x9_2 < (t454.length : Int)) = true := decide_eq_true c72
         clear c72
         by_cases c73 : 0 ≤ x9_2
         ·rw [if_pos c73] at H
          have c73b0 : decide (0 ≤ x9_2) = true := decide_eq_true c73
          clear c73
          by_cases c74 : ((rd_T26 t454 x9_2).f0) < 4
          ·rw [if_pos c74] at H
           have c74b0 : decide (((rd_T26 t454 x9_2).f0) < 4) = true := decide_eq_true c74
           clear c74
           replace H := Option.bind_eq_some_iff.mp H
           obtain ⟨t498, A750, H⟩ := H
           replace H : (if t498 = true then (if t470.toList = t459.toList then ((tolllaw07_awake.f k2).bind fun t499 => (some t499)) else (none)) else (tolllaw07_FilterLeaves.l0 k2 t469 (wrap64 (x9_2 + 1)) t454 t457 t458 t459 t460 t461 t462 t465 t468 t470 t471 t472 t473 t476)) = some r := H
           have A75 := Aside0.mk A750
           clear A750
           by_cases c76 : t498 = true
           ·subst c76
            have H1 : (if t470.toList = t459.toList then ((tolllaw07_awake.f k2).bind fun t499 => (some t499)) else (none)) = some r := by rw [if_pos rfl] at H; exact H
            clear H
            have H := H1
            clear H1
            by_cases c77 : t470.toList = t459.toList
            ·rw [if_pos c77] at H
             have c77b0 : (t470.toList == t459.toList) = true := beq_iff_eq.mpr c77
             have c77b1 : (t470.toList != t459.toList) = false := bne_eq_false_iff_eq.mpr c77
             clear c77
             replace H := Option.bind_eq_some_iff.mp H
             obtain ⟨t499, A780, H⟩ := H
             replace H : (some t499) = some r := H
             have A78 := Aside0.mk A780
             clear A780
             obtain rfl := Option.some.inj H
             have hnb79 := NB453_480.out
             have hnc79 := NB480_453.out
             have hnb80 := NB453_493.out
             have hnc80 := NB493_453.out
             obtain ⟨hcz81_0, hcz81_1, hcz81_2, hcz81_3, hcz81_4, hcz81_5, hcz81_6, hcz81_7, hcz81_8, hfz81_0, hfz81_1, hfz81_2, hfz81_3, hfz81_4, hfz81_5, hfz81_6, hfz81_7, hfz81_8⟩ := blk9 BK453.out
             have p496 : 0 ≤ (x9_2 : Int) := of_decide_eq_true as_
             have q496 : x9_2 < (t454.length : Int) := of_decide_eq_true as_
             obtain ⟨ad496, e496, hx496_0, hx496_1, hx496_2, hx496_3, hx496_4, hx496_5, hx496_6, hx496_7⟩ := at_T26 (Kd.R_reads' HO_454000.out).2.2 x9_2 p496 q496
             cases e496
             replace p496 := eq_true p496
             replace q496 := eq_true q496
             have p497 : 0 ≤ (x9_2 : Int) := of_decide_eq_true as_
             have q497 : x9_2 < (t454.length : Int) := of_decide_eq_true as_
             obtain ⟨ad497, e497, hx497_0, hx497_1, hx497_2, hx497_3, hx497_4, hx497_5, hx497_6, hx497_7⟩ := at_T26 (Kd.R_reads' HO_454000.out).2.2 x9_2 p497 q497
             obtain rfl : ad496 = ad497 := (by injection e497)
             replace p497 := eq_true p497
             replace q497 := eq_true q497
             go_wp2_with (first | (go_at_call 23; (with_reducible refine (tollref05_Same.calls k2 ((rd_T26 t454 x9_2).f1) t469 true _ A75.out).mono ?_); rintro e w82 ⟨rfl, hb⟩; have n0_ := am_ (Kd.R_below (R_ HO_454000.out) hb); have n1_ := am_ (Kd.R_below (R_ HO_454006.out) hb); have n2_ := am_ (Kd.R_below (R_ HO_454007.out) hb); have n3_ := am_ (Kd.V_below (by (with_reducible repeat (first | apply Kd.V_alloc | apply Kd.V_drewN | apply Kd.V_drew)); exact HO_481003.out) hb); have n4_ := am_ (Kd.V_below (by (with_reducible repeat (first | apply Kd.V_alloc | apply Kd.V_drewN | apply Kd.V_drew)); exact HO_481004.out) hb); have n5_ := am_ (Kd.V_below (by (with_reducible repeat (first | apply Kd.V_alloc | apply Kd.V_drewN | apply Kd.V_drew)); exact HO_494003.out) hb); have n6_ := am_ (Kd.V_below (by (with_reducible repeat (first | apply Kd.V_alloc | apply Kd.V_drewN | apply Kd.V_drew)); exact HO_494004.out) hb); have n7_ := am_ (blk_below (g := gb453) (o := .cells #[.slice (some ad496) t454.length co41, .int .i64 t457, .string t458, .string t459, .string t460, .string t461, .slice Ao43 t462.length co43, .slice Ao44 t465.length co44, .bool t468] 35 (0, 0)) (blk_ BK453.out) hb); have n8_ := am_ (blk_below (g := gb480) (o := .cells #[.string t470, .string t471, .string t472, .slice Ao51 t473.length co51, .slice Ao52 t476.length co52] 33 (0, 0)) (blk_ BK480.out) hb); have n9_ := am_ (blk_below (g := gb493) (o := .cells #[.string t483, .string t484, .string t485, .slice Ao60 t486.length co60, .slice Ao61 t489.length co61] 33 (0, 0)) (blk_ BK493.out) hb); have n10_ := am_ (below_step (bel_ HB.out) hb); clear HO_454000 HO_454006 HO_454007 HO_481003 HO_481004 HO_494003 HO_494004 BK453 BK480 BK493 HB; have HO_454000 := n0_; have HO_454006 := n1_; have HO_454007 := n2_; have HO_481003 := n3_; have HO_481004 := n4_; have HO_494003 := n5_; have HO_494004 := n6_; have BK453 := n7_; have BK480 := n8_; have BK493 := n9_; have HB := n10_; clear n0_ n1_ n2_ n3_ n4_ n5_ n6_ n7_ n8_ n9_ n10_; (try clear hb); (try clear hb2); (try clear hk); (try clear hi); have hnb83 := NB480_493.out; have hnc83 := NB493_480.out; obtain ⟨hcz84_0, hcz84_1, hcz84_2, hcz84_3, hcz84_4, hfz84_0, hfz84_1, hfz84_2, hfz84_3, hfz84_4⟩ := blk5 BK480.out; obtain ⟨hcz85_0, hcz85_1, hcz85_2, hcz85_3, hcz85_4, hcz85_5, hcz85_6, hcz85_7, hcz85_8, hfz85_0, hfz85_1, hfz85_2, hfz85_3, hfz85_4, hfz85_5, hfz85_6, hfz85_7, hfz85_8⟩ := blk9 BK453.out) | (go_at_call 14; (with_reducible refine (tolllaw07_awake.calls k2  t499 _ (gm_ HGL.out (bel_ HB.out)) A78.out).mono ?_); rintro e w86 ⟨rfl, hb⟩; have n0_ := am_ (Kd.R_below (R_ HO_454000.out) hb); have n1_ := am_ (Kd.R_below (R_ HO_454006.out) hb); have n2_ := am_ (Kd.R_below (R_ HO_454007.out) hb); have n3_ := am_ (Kd.V_below (by (with_reducible repeat (first | apply Kd.V_alloc | apply Kd.V_drewN | apply Kd.V_drew)); exact HO_481003.out) hb); have n4_ := am_ (Kd.V_below (by (with_reducible repeat (first | apply Kd.V_alloc | apply Kd.V_drewN | apply Kd.V_drew)); exact HO_481004.out) hb); have n5_ := am_ (Kd.V_below (by (with_reducible repeat (first | apply Kd.V_alloc | apply Kd.V_drewN | apply Kd.V_drew)); exact HO_494003.out) hb); have n6_ := am_ (Kd.V_below (by (with_reducible repeat (first | apply Kd.V_alloc | apply Kd.V_drewN | apply Kd.V_drew)); exact HO_494004.out) hb); have n7_ := am_ (blk_below (g := gb453) (o := .cells #[.slice (some ad496) t454.length co41, .int .i64 t457, .string t458, .string t459, .string t460, .string t461, .slice Ao43 t462.length co43, .slice Ao44 t465.length co44, .bool t468] 35 (0, 0)) (blk_ BK453.out) hb); have n8_ := am_ (blk_below (g := gb480) (o := .cells #[.string t470, .string t471, .string t472, .slice Ao51 t473.length co51, .slice Ao52 t476.length co52] 33 (0, 0)) (blk_ BK480.out) hb); have n9_ := am_ (blk_below (g := gb493) (o := .cells #[.string t483, .string t484, .string t485, .slice Ao60 t486.length co60, .slice Ao61 t489.length co61] 33 (0, 0)) (blk_ BK493.out) hb); have n10_ := am_ (below_step (bel_ HB.out) hb); clear HO_454000 HO_454006 HO_454007 HO_481003 HO_481004 HO_494003 HO_494004 BK453 BK480 BK493 HB; have HO_454000 := n0_; have HO_454006 := n1_; have HO_454007 := n2_; have HO_481003 := n3_; have HO_481004 := n4_; have HO_494003 := n5_; have HO_494004 := n6_; have BK453 := n7_; have BK480 := n8_; have BK493 := n9_; have HB := n10_; clear n0_ n1_ n2_ n3_ n4_ n5_ n6_ n7_ n8_ n9_ n10_; (try clear hb); (try clear hb2); (try clear hk); (try clear hi)))
             go_ret
             exact ⟨fi_, bel_ HB.out⟩
            ·rw [if_neg c77] at H
             exact absurd H (by simp)
           ·replace c76 := Bool.eq_false_iff.mpr c76
            subst c76
            have H1 : (tolllaw07_FilterLeaves.l0 k2 t469 (wrap64 (x9_2 + 1)) t454 t457 t458 t459 t460 t461 t462 t465 t468 t470 t471 t472 t473 t476) = some r := by rw [if_neg (show ¬ (false = true) by decide)] at H; exact H
            clear H
            have H := H1
            clear H1
            have H' := Aside0.mk H
            clear H
            have hnb87 := NB453_480.out
            have hnc87 := NB480_453.out
            have hnb88 := NB453_493.out
            have hnc88 := NB493_453.out
            obtain ⟨hcz89_0, hcz89_1, hcz89_2, hcz89_3, hcz89_4, hcz89_5, hcz89_6, hcz89_7, hcz89_8, hfz89_0, hfz89_1, hfz89_2, hfz89_3, hfz89_4, hfz89_5, hfz89_6, hfz89_7, hfz89_8⟩ := blk9 BK453.out
            have p496 : 0 ≤ (x9_2 : Int) := of_decide_eq_true as_
            have q496 : x9_2 < (t454.length : Int) := of_decide_eq_true as_
            obtain ⟨ad496, e496, hx496_0, hx496_1, hx496_2, hx496_3, hx496_4, hx496_5, hx496_6, hx496_7⟩ := at_T26 (Kd.R_reads' HO_454000.out).2.2 x9_2 p496 q496
            cases e496
            replace p496 := eq_true p496
            replace q496 := eq_true q496
            have p497 : 0 ≤ (x9_2 : Int) := of_decide_eq_true as_
            have q497 : x9_2 < (t454.length : Int) := of_decide_eq_true as_
            obtain ⟨ad497, e497, hx497_0, hx497_1, hx497_2, hx497_3, hx497_4, hx497_5, hx497_6, hx497_7⟩ := at_T26 (Kd.R_reads' HO_454000.out).2.2 x9_2 p497 q497
            obtain rfl : ad496 = ad497 := (by injection e497)
            replace p497 := eq_true p497
            replace q497 := eq_true q497
            go_wp2_with (first | (go_at_call 23; (with_reducible refine (tollref05_Same.calls k2 ((rd_T26 t454 x9_2).f1) t469 false _ A75.out).mono ?_); rintro e w90 ⟨rfl, hb⟩; have n0_ := am_ (Kd.R_below (R_ HO_454000.out) hb); have n1_ := am_ (Kd.R_below (R_ HO_454006.out) hb); have n2_ := am_ (Kd.R_below (R_ HO_454007.out) hb); have n3_ := am_ (Kd.V_below (by (with_reducible repeat (first | apply Kd.V_alloc | apply Kd.V_drewN | apply Kd.V_drew)); exact HO_481003.out) hb); have n4_ := am_ (Kd.V_below (by (with_reducible repeat (first | apply Kd.V_alloc | apply Kd.V_drewN | apply Kd.V_drew)); exact HO_481004.out) hb); have n5_ := am_ (Kd.V_below (by (with_reducible repeat (first | apply Kd.V_alloc | apply Kd.V_drewN | apply Kd.V_drew)); exact HO_494003.out) hb); have n6_ := am_ (Kd.V_below (by (with_reducible repeat (first | apply Kd.V_alloc | apply Kd.V_drewN | apply Kd.V_drew)); exact HO_494004.out) hb); have n7_ := am_ (blk_below (g := gb453) (o := .cells #[.slice (some ad496) t454.length co41, .int .i64 t457, .string t458, .string t459, .string t460, .string t461, .slice Ao43 t462.length co43, .slice Ao44 t465.length co44, .bool t468] 35 (0, 0)) (blk_ BK453.out) hb); have n8_ := am_ (blk_below (g := gb480) (o := .cells #[.string t470, .string t471, .string t472, .slice Ao51 t473.length co51, .slice Ao52 t476.length co52] 33 (0, 0)) (blk_ BK480.out) hb); have n9_ := am_ (blk_below (g := gb493) (o := .cells #[.string t483, .string t484, .string t485, .slice Ao60 t486.length co60, .slice Ao61 t489.length co61] 33 (0, 0)) (blk_ BK493.out) hb); have n10_ := am_ (below_step (bel_ HB.out) hb); clear HO_454000 HO_454006 HO_454007 HO_481003 HO_481004 HO_494003 HO_494004 BK453 BK480 BK493 HB; have HO_454000 := n0_; have HO_454006 := n1_; have HO_454007 := n2_; have HO_481003 := n3_; have HO_481004 := n4_; have HO_494003 := n5_; have HO_494004 := n6_; have BK453 := n7_; have BK480 := n8_; have BK493 := n9_; have HB := n10_; clear n0_ n1_ n2_ n3_ n4_ n5_ n6_ n7_ n8_ n9_ n10_; (try clear hb); (try clear hb2); (try clear hk); (try clear hi)))
            go_roundg k2
            case measure => have := HJ36.out; have := HK2.out; omega
            case rel => exact ⟨(wrap64 (x9_2 + 1)), sd_, H', ⟨by have := HJ36.out; have := HK2.out; omega⟩, ⟨by (with_reducible repeat (first | apply Kd.R_alloc | apply Kd.R_drewN | apply Kd.R_drew)); exact HO_454000.out⟩, ⟨by (with_reducible repeat (first | apply Kd.R_alloc | apply Kd.R_drewN | apply Kd.R_drew)); exact HO_454006.out⟩, ⟨by (with_reducible repeat (first | apply Kd.R_alloc | apply Kd.R_drewN | apply Kd.R_drew)); exact HO_454007.out⟩, ⟨by (with_reducible repeat (first | apply Kd.V_alloc | apply Kd.V_drewN | apply Kd.V_drew)); exact HO_481003.out⟩, ⟨by (with_reducible repeat (first | apply Kd.V_alloc | apply Kd.V_drewN | apply Kd.V_drew)); exact HO_481004.out⟩, ⟨by (with_reducible repeat (first | apply Kd.V_alloc | apply Kd.V_drewN | apply Kd.V_drew)); exact HO_494003.out⟩, ⟨by (with_reducible repeat (first | apply Kd.V_alloc | apply Kd.V_drewN | apply Kd.V_drew)); exact HO_494004.out⟩, ⟨by (with_reducible repeat (first | refine blk_drewN ?_ _ | refine blk_drew ?_ | refine blk_alloc ?_ _)); exact BK453.out⟩, ⟨by (with_reducible repeat (first | refine blk_drewN ?_ _ | refine blk_drew ?_ | refine blk_alloc ?_ _)); exact BK480.out⟩, ⟨by (with_reducible repeat (first | refine blk_drewN ?_ _ | refine blk_drew ?_ | refine blk_alloc ?_ _)); exact BK493.out⟩, ⟨bel_ HB.out⟩⟩
          ·rw [if_neg c74] at H
           have c74b0 : decide (((rd_T26 t454 x9_2).f0) < 4) = false := decide_eq_false c74
           clear c74
           have H' := Aside0.mk H
           clear H
           have hnb91 := NB453_480.out
           have hnc91 := NB480_453.out
           have hnb92 := NB453_493.out
           have hnc92 := NB493_453.out
           obtain ⟨hcz93_0, hcz93_1, hcz93_2, hcz93_3, hcz93_4, hcz93_5, hcz93_6, hcz93_7, hcz93_8, hfz93_0, hfz93_1, hfz93_2, hfz93_3, hfz93_4, hfz93_5, hfz93_6, hfz93_7, hfz93_8⟩ := blk9 BK453.out
           have p496 : 0 ≤ (x9_2 : Int) := of_decide_eq_true as_
           have q496 : x9_2 < (t454.length : Int) := of_decide_eq_true as_
           obtain ⟨ad496, e496, hx496_0, hx496_1, hx496_2, hx496_3, hx496_4, hx496_5, hx496_6, hx496_7⟩ := at_T26 (Kd.R_reads' HO_454000.out).2.2 x9_2 p496 q496
           cases e496
           replace p496 := eq_true p496
           replace q496 := eq_true q496
           go_wp2
           go_roundg k2
           case measure => have := HJ36.out; have := HK2.out; omega
           case rel => exact ⟨(wrap64 (x9_2 + 1)), sd_, H', ⟨by have := HJ36.out; have := HK2.out; omega⟩, ⟨by (with_reducible repeat (first | apply Kd.R_alloc | apply Kd.R_drewN | apply Kd.R_drew)); exact HO_454000.out⟩, ⟨by (with_reducible repeat (first | apply Kd.R_alloc | apply Kd.R_drewN | apply Kd.R_drew)); exact HO_454006.out⟩, ⟨by (with_reducible repeat (first | apply Kd.R_alloc | apply Kd.R_drewN | apply Kd.R_drew)); exact HO_454007.out⟩, ⟨by (with_reducible repeat (first | apply Kd.V_alloc | apply Kd.V_drewN | apply Kd.V_drew)); exact HO_481003.out⟩, ⟨by (with_reducible repeat (first | apply Kd.V_alloc | apply Kd.V_drewN | apply Kd.V_drew)); exact HO_481004.out⟩, ⟨by (with_reducible repeat (first | apply Kd.V_alloc | apply Kd.V_drewN | apply Kd.V_drew)); exact HO_494003.out⟩, ⟨by (with_reducible repeat (first | apply Kd.V_alloc | apply Kd.V_drewN | apply Kd.V_drew)); exact HO_494004.out⟩, ⟨by (with_reducible repeat (first | refine blk_drewN ?_ _ | refine blk_drew ?_ | refine blk_alloc ?_ _)); exact BK453.out⟩, ⟨by (with_reducible repeat (first | refine blk_drewN ?_ _ | refine blk_drew ?_ | refine blk_alloc ?_ _)); exact BK480.out⟩, ⟨by (with_reducible repeat (first | refine blk_drewN ?_ _ | refine blk_drew ?_ | refine blk_alloc ?_ _)); exact BK493.out⟩, ⟨bel_ HB.out⟩⟩
         ·rw [if_neg c73] at H
          exact absurd H (by simp)
        ·rw [if_neg c72] at H
         have c72b0 : decide (x9_2 < (t454.length : Int)) = false := decide_eq_false c72
         clear c72
         by_cases c94 : t470.toList = t459.toList
         ·rw [if_pos c94] at H
          have c94b0 : (t470.toList == t459.toList) = true := beq_iff_eq.mpr c94
          have c94b1 : (t470.toList != t459.toList) = false := bne_eq_false_iff_eq.mpr c94
          clear c94
          replace H := Option.bind_eq_some_iff.mp H
          obtain ⟨t500, A950, H⟩ := H
          replace H : (if t500 = true then ((tollref05_All.f k2 t476 t469).bind fun t501 => ((tollref05_All.f k2 t465 t469).bind fun t504 => ((tollref01_Same.f k2 t501 t504).bind fun t507 => (if t507 = true then ((tolllaw07_awake.f k2).bind fun t508 => (some t508)) else (none))))) else (none)) = some r := H
          have A95 := Aside0.mk A950
          clear A950
          by_cases c96 : t500 = true
          ·subst c96
           have H1 : ((tollref05_All.f k2 t476 t469).bind fun t501 => ((tollref05_All.f k2 t465 t469).bind fun t504 => ((tollref01_Same.f k2 t501 t504).bind fun t507 => (if t507 = true then ((tolllaw07_awake.f k2).bind fun t508 => (some t508)) else (none))))) = some r := by rw [if_pos rfl] at H; exact H
           clear H
           have H := H1
           clear H1
           replace H := Option.bind_eq_some_iff.mp H
           obtain ⟨t501, A970, H⟩ := H
           replace H : ((tollref05_All.f k2 t465 t469).bind fun t504 => ((tollref01_Same.f k2 t501 t504).bind fun t507 => (if t507 = true then ((tolllaw07_awake.f k2).bind fun t508 => (some t508)) else (none)))) = some r := H
           have A97 := Aside0.mk A970
           clear A970
           replace H := Option.bind_eq_some_iff.mp H
           obtain ⟨t504, A980, H⟩ := H
           replace H : ((tollref01_Same.f k2 t501 t504).bind fun t507 => (if t507 = true then ((tolllaw07_awake.f k2).bind fun t508 => (some t508)) else (none))) = some r := H
           have A98 := Aside0.mk A980
           clear A980
           replace H := Option.bind_eq_some_iff.mp H
           obtain ⟨t507, A990, H⟩ := H
           replace H : (if t507 = true then ((tolllaw07_awake.f k2).bind fun t508 => (some t508)) else (none)) = some r := H
           have A99 := Aside0.mk A990
           clear A990
           by_cases c100 : t507 = true
           ·subst c100
            have H1 : ((tolllaw07_awake.f k2).bind fun t508 => (some t508)) = some r := by rw [if_pos rfl] at H; exact H
            clear H
            have H := H1
            clear H1
            replace H := Option.bind_eq_some_iff.mp H
            obtain ⟨t508, A1010, H⟩ := H
            replace H : (some t508) = some r := H
            have A101 := Aside0.mk A1010
            clear A1010
            obtain rfl := Option.some.inj H
            have hnb102 := NB453_480.out
            have hnc102 := NB480_453.out
            have hnb103 := NB453_493.out
            have hnc103 := NB493_453.out
            obtain ⟨hcz104_0, hcz104_1, hcz104_2, hcz104_3, hcz104_4, hcz104_5, hcz104_6, hcz104_7, hcz104_8, hfz104_0, hfz104_1, hfz104_2, hfz104_3, hfz104_4, hfz104_5, hfz104_6, hfz104_7, hfz104_8⟩ := blk9 BK453.out
            try go_wp2
            have n0_ := am_ (Kd.R_drew HO_454000.out)
            have n1_ := am_ (Kd.R_drew HO_454006.out)
            have n2_ := am_ (Kd.R_drew HO_454007.out)
            have n3_ := am_ (Kd.V_drew HO_481003.out)
            have n4_ := am_ (Kd.V_drew HO_481004.out)
            have n5_ := am_ (Kd.V_drew HO_494003.out)
            have n6_ := am_ (Kd.V_drew HO_494004.out)
            have n7_ := am_ (blk_drew BK453.out)
            have n8_ := am_ (blk_drew BK480.out)
            have n9_ := am_ (blk_drew BK493.out)
            have n10_ := am_ (below_drew1 HB.out)
            clear HO_454000 HO_454006 HO_454007 HO_481003 HO_481004 HO_494003 HO_494004 BK453 BK480 BK493 HB
            have HO_454000 := n0_
            have HO_454006 := n1_
            have HO_454007 := n2_
            have HO_481003 := n3_
            have HO_481004 := n4_
            have HO_494003 := n5_
            have HO_494004 := n6_
            have BK453 := n7_
            have BK480 := n8_
            have BK493 := n9_
            have HB := n10_
            clear n0_ n1_ n2_ n3_ n4_ n5_ n6_ n7_ n8_ n9_ n10_
            refine start_ (n := 30) (S := fun w' => w'.cell? ⟨gb480, 0, none⟩ = some (.string t470) ∧ w'.cell? ⟨gb480, 1, none⟩ = some (.string t471) ∧ w'.cell? ⟨gb480, 2, none⟩ = some (.string t472) ∧ w'.cell? ⟨gb480, 3, none⟩ = some (.slice Ao51 t473.length co51) ∧ w'.cell? ⟨gb480, 4, none⟩ = some (.slice Ao52 t476.length co52) ∧ w'.cell? ⟨gb453, 0, none⟩ = some (.slice Ao41 t454.length co41) ∧ w'.cell? ⟨gb453, 1, none⟩ = some (.int .i64 t457) ∧ w'.cell? ⟨gb453, 2, none⟩ = some (.string t458) ∧ w'.cell? ⟨gb453, 3, none⟩ = some (.string t459) ∧ w'.cell? ⟨gb453, 4, none⟩ = some (.string t460) ∧ w'.cell? ⟨gb453, 5, none⟩ = some (.string t461) ∧ w'.cell? ⟨gb453, 6, none⟩ = some (.slice Ao43 t462.length co43) ∧ w'.cell? ⟨gb453, 7, none⟩ = some (.slice Ao44 t465.length co44) ∧ w'.cell? ⟨gb453, 8, none⟩ = some (.bool t468)) (ds := []) #[false, false, false, false, false, false, false, false, false, false, false, false, false, false, false, false, false, false, false, false, false, false, false, false, false, false, false, false, false, false] kr_ rfl rfl ⟨(blk_cell BK480.out 0).trans rfl, (blk_cell BK480.out 1).trans rfl, (blk_cell BK480.out 2).trans rfl, (blk_cell BK480.out 3).trans rfl, (blk_cell BK480.out 4).trans rfl, (blk_cell BK453.out 0).trans rfl, (blk_cell BK453.out 1).trans rfl, (blk_cell BK453.out 2).trans rfl, (blk_cell BK453.out 3).trans rfl, (blk_cell BK453.out 4).trans rfl, (blk_cell BK453.out 5).trans rfl, (blk_cell BK453.out 6).trans rfl, (blk_cell BK453.out 7).trans rfl, (blk_cell BK453.out 8).trans rfl⟩ (fun hHeld => ?_); refine with_tabW tolllaw07_FilterLeaves.tab15 tolllaw07_FilterLeaves.bits15 (fun HT_ HW_ => ?_)
            generalize wr.drew = w105 at HO_454000 HO_454006 HO_454007 HO_481003 HO_481004 HO_494003 HO_494004 BK453 BK480 BK493 HB hHeld ⊢
            refine pure_ (i := 0) (N := some 92) (v := ?_) (a' := ?_) #[true, false, false, false, false, false, false, false, false, false, false, false, false, false, false, false, false, false, false, false, false, false, false, false, false, false, false, false, false, false] rfl rfl (any_of HT_.out kr_) (fun _ _ _ h => h) (Or.inl ⟨by rfl, ?_⟩) ?_ ?_
            rotate_left
            ·intro w'
             go_simp
             with_reducible rfl
            rotate_left
            ·simp only [Act.put, sx_, s0_, s1_, i64_w, i32_w]
             rfl
            refine pure_ (i := 2) (N := some 94) (v := ?_) (a' := ?_) #[true, false, true, false, false, false, false, false, false, false, false, false, false, false, false, false, false, false, false, false, false, false, false, false, false, false, false, false, false, false] rfl rfl (any_of HT_.out kr_) (fun _ _ _ h => h) (Or.inl ⟨by rfl, ?_⟩) ?_ ?_
            rotate_left
            ·intro w'
             go_simp
             with_reducible rfl
            rotate_left
            ·simp only [Act.put, sx_, s0_, s1_, i64_w, i32_w]
             rfl
            refine pure_ (i := 3) (N := some 95) (v := ?_) (a' := ?_) #[true, false, true, true, false, false, false, false, false, false, false, false, false, false, false, false, false, false, false, false, false, false, false, false, false, false, false, false, false, false] rfl rfl (any_of HT_.out kr_) (fun _ _ _ h => h) (Or.inl ⟨by rfl, ?_⟩) ?_ ?_
            rotate_left
            ·intro w'
             go_simp
             with_reducible rfl
            rotate_left
            ·simp only [Act.put, sx_, s0_, s1_, i64_w, i32_w]
             rfl
            refine take_ (i := 1) (N := some 93) (v := ?_) (a' := ?_) #[true, true, true, true, false, false, false, false, false, false, false, false, false, false, false, false, false, false, false, false, false, false, false, false, false, false, false, false, false, false] rfl rfl (take_ofW HT_.out HW_.out kr_) (fun _ _ _ h => h) (Or.inl ⟨by rfl, ?_⟩) hHeld ?_ ?_
            rotate_left
            ·rintro w' ⟨s0, s1, s2, s3, s4, s5, s6, s7, s8, s9, s10, s11, s12, s13⟩
             go_simp
             with_reducible rfl
            rotate_left
            ·simp only [Act.put, sx_, s0_, s1_, i64_w, i32_w]
             rfl
            refine take_ (i := 4) (N := some 96) (v := ?_) (a' := ?_) #[true, true, true, true, true, false, false, false, false, false, false, false, false, false, false, false, false, false, false, false, false, false, false, false, false, false, false, false, false, false] rfl rfl (take_ofW HT_.out HW_.out kr_) (fun _ _ _ h => h) (Or.inl ⟨by rfl, ?_⟩) hHeld ?_ ?_
            rotate_left
            ·rintro w' ⟨s0, s1, s2, s3, s4, s5, s6, s7, s8, s9, s10, s11, s12, s13⟩
             go_simp
             with_reducible rfl
            rotate_left
            ·simp only [Act.put, sx_, s0_, s1_, i64_w, i32_w]
             rfl
            refine pure_ (i := 5) (N := some 97) (v := ?_) (a' := ?_) #[true, true, true, true, true, true, false, false, false, false, false, false, false, false, false, false, false, false, false, false, false, false, false, false, false, false, false, false, false, false] rfl rfl (any_of HT_.out kr_) (fun _ _ _ h => h) (Or.inl ⟨by rfl, ?_⟩) ?_ ?_
            rotate_left
            ·intro w'
             go_simp
             with_reducible rfl
            rotate_left
            ·simp only [Act.put, sx_, s0_, s1_, i64_w, i32_w]
             rfl
            refine pure_ (i := 6) (N := some 98) (v := ?_) (a' := ?_) #[true, true, true, true, true, true, true, false, false, false, false, false, false, false, false, false, false, false, false, false, false, false, false, false, false, false, false, false, false, false] rfl rfl (any_of HT_.out kr_) (fun _ _ _ h => h) (Or.inl ⟨by rfl, ?_⟩) ?_ ?_
            rotate_left
            ·intro w'
             go_simp
             with_reducible rfl
            rotate_left
            ·simp only [Act.put, sx_, s0_, s1_, i64_w, i32_w]
             rfl
            refine pure_ (i := 7) (N := some 99) (v := ?_) (a' := ?_) #[true, true, true, true, true, true, true, true, false, false, false, false, false, false, false, false, false, false, false, false, false, false, false, false, false, false, false, false, false, false] rfl rfl (any_of HT_.out kr_) (fun _ _ _ h => h) (Or.inl ⟨by rfl, ?_⟩) ?_ ?_
            rotate_left
            ·intro w'
             go_simp
             with_reducible rfl
            rotate_left
            ·simp only [Act.put, sx_, s0_, s1_, i64_w, i32_w]
             rfl
            refine pure_ (i := 9) (N := some 101) (v := ?_) (a' := ?_) #[true, true, true, true, true, true, true, true, false, true, false, false, false, false, false, false, false, false, false, false, false, false, false, false, false, false, false, false, false, false] rfl rfl (any_of HT_.out kr_) (fun _ _ _ h => h) (Or.inl ⟨by rfl, ?_⟩) ?_ ?_
            rotate_left
            ·intro w'
             go_simp
             with_reducible rfl
            rotate_left
            ·simp only [Act.put, sx_, s0_, s1_, i64_w, i32_w]
             rfl
            refine pure_ (i := 10) (N := some 102) (v := ?_) (a' := ?_) #[true, true, true, true, true, true, true, true, false, true, true, false, false, false, false, false, false, false, false, false, false, false, false, false, false, false, false, false, false, false] rfl rfl (any_of HT_.out kr_) (fun _ _ _ h => h) (Or.inl ⟨by rfl, ?_⟩) ?_ ?_
            rotate_left
            ·intro w'
             go_simp
             with_reducible rfl
            rotate_left
            ·simp only [Act.put, sx_, s0_, s1_, i64_w, i32_w]
             rfl
            refine take_ (i := 8) (N := some 100) (v := ?_) (a' := ?_) #[true, true, true, true, true, true, true, true, true, true, true, false, false, false, false, false, false, false, false, false, false, false, false, false, false, false, false, false, false, false] rfl rfl (take_ofW HT_.out HW_.out kr_) (fun _ _ _ h => h) (Or.inl ⟨by rfl, ?_⟩) hHeld ?_ ?_
            rotate_left
            ·rintro w' ⟨s0, s1, s2, s3, s4, s5, s6, s7, s8, s9, s10, s11, s12, s13⟩
             go_simp
             with_reducible rfl
            rotate_left
            ·simp only [Act.put, sx_, s0_, s1_, i64_w, i32_w]
             rfl
            refine take_ (i := 11) (N := some 103) (v := ?_) (a' := ?_) #[true, true, true, true, true, true, true, true, true, true, true, true, false, false, false, false, false, false, false, false, false, false, false, false, false, false, false, false, false, false] rfl rfl (take_ofW HT_.out HW_.out kr_) (fun _ _ _ h => h) (Or.inl ⟨by rfl, ?_⟩) hHeld ?_ ?_
            rotate_left
            ·rintro w' ⟨s0, s1, s2, s3, s4, s5, s6, s7, s8, s9, s10, s11, s12, s13⟩
             go_simp
             with_reducible rfl
            rotate_left
            ·simp only [Act.put, sx_, s0_, s1_, i64_w, i32_w]
             rfl
            refine one_ (i := 12) (N := some 104) #[true, true, true, true, true, true, true, true, true, true, true, true, true, false, false, false, false, false, false, false, false, false, false, false, false, false, false, false, false, false] rfl rfl (one_of HT_.out kr_) (by decide) (fun K hK => ?_)
            refine goes_ Tryz.func24 kr_ rfl #[.slice Ao51 t473.length co51, .slice Ao43 t462.length co43] (by rfl) rfl rfl rl_ ?_
            with_reducible refine (tollref04_Same.calls k2 _ _ t473 _ _ t462 true _ ?side1 ?side2 ?side3 ?side4 A95.out).mono ?_
            (case side1 => exact C_ (Kd.V_reads' HO_481003.out).2.2)
            (case side2 => exact (Kd.V_reads' HO_481003.out).2.1)
            (case side3 => exact C_ (Kd.R_reads' HO_454006.out).2.2)
            (case side4 => exact (Kd.R_reads' HO_454006.out).2.1)
            rintro e w' ⟨rfl, ⟨nd, rfl⟩⟩
            refine ⟨_, rfl, ?_⟩
            refine hK.out _ _ ⟨(blk_cell BK480.out 0).trans rfl, (blk_cell BK480.out 1).trans rfl, (blk_cell BK480.out 2).trans rfl, (blk_cell BK480.out 3).trans rfl, (blk_cell BK480.out 4).trans rfl, (blk_cell BK453.out 0).trans rfl, (blk_cell BK453.out 1).trans rfl, (blk_cell BK453.out 2).trans rfl, (blk_cell BK453.out 3).trans rfl, (blk_cell BK453.out 4).trans rfl, (blk_cell BK453.out 5).trans rfl, (blk_cell BK453.out 6).trans rfl, (blk_cell BK453.out 7).trans rfl, (blk_cell BK453.out 8).trans rfl⟩ (fun hHeld => ?_)
            clear hK K
            refine norm_ (a' := ?_) ?_ ?_
            rotate_left
            ·show Act.put _ (some 104) _ = _
             simp only [Act.put, sx_, s0_, s1_, i64_w, i32_w]
             rfl
            refine pure_ (i := 13) (N := some 105) (v := ?_) (a' := ?_) #[true, true, true, true, true, true, true, true, true, true, true, true, true, true, false, false, false, false, false, false, false, false, false, false, false, false, false, false, false, false] rfl rfl (any_of HT_.out kr_) (fun _ _ _ h => h) (Or.inl ⟨by rfl, ?_⟩) ?_ ?_
            rotate_left
            ·intro w'
             go_simp
             with_reducible rfl
            rotate_left
            ·simp only [Act.put, sx_, s0_, s1_, i64_w, i32_w]
             rfl
            refine pure_ (i := 14) (N := some 106) (v := ?_) (a' := ?_) #[true, true, true, true, true, true, true, true, true, true, true, true, true, true, true, false, false, false, false, false, false, false, false, false, false, false, false, false, false, false] rfl rfl (any_of HT_.out kr_) (fun _ _ _ h => h) (Or.inl ⟨by rfl, ?_⟩) ?_ ?_
            rotate_left
            ·intro w'
             go_simp
             with_reducible rfl
            rotate_left
            ·simp only [Act.put, sx_, s0_, s1_, i64_w, i32_w]
             rfl
            refine pure_ (i := 15) (N := some 107) (v := ?_) (a' := ?_) #[true, true, true, true, true, true, true, true, true, true, true, true, true, true, true, true, false, false, false, false, false, false, false, false, false, false, false, false, false, false] rfl rfl (any_of HT_.out kr_) (fun _ _ _ h => h) (Or.inl ⟨by rfl, ?_⟩) ?_ ?_
            rotate_left
            ·intro w'
             go_simp
             with_reducible rfl
            rotate_left
            ·simp only [Act.put, sx_, s0_, s1_, i64_w, i32_w]
             rfl
            refine pure_ (i := 17) (N := some 109) (v := ?_) (a' := ?_) #[true, true, true, true, true, true, true, true, true, true, true, true, true, true, true, true, false, true, false, false, false, false, false, false, false, false, false, false, false, false] rfl rfl (any_of HT_.out kr_) (fun _ _ _ h => h) (Or.inl ⟨by rfl, ?_⟩) ?_ ?_
            rotate_left
            ·intro w'
             go_simp
             with_reducible rfl
            rotate_left
            ·simp only [Act.put, sx_, s0_, s1_, i64_w, i32_w]
             rfl
            refine pure_ (i := 19) (N := some 111) (v := ?_) (a' := ?_) #[true, true, true, true, true, true, true, true, true, true, true, true, true, true, true, true, false, true, false, true, false, false, false, false, false, false, false, false, false, false] rfl rfl (any_of HT_.out kr_) (fun _ _ _ h => h) (Or.inl ⟨by rfl, ?_⟩) ?_ ?_
            rotate_left
            ·intro w'
             go_simp
             with_reducible rfl
            rotate_left
            ·simp only [Act.put, sx_, s0_, s1_, i64_w, i32_w]
             rfl
            refine pure_ (i := 20) (N := some 112) (v := ?_) (a' := ?_) #[true, true, true, true, true, true, true, true, true, true, true, true, true, true, true, true, false, true, false, true, true, false, false, false, false, false, false, false, false, false] rfl rfl (any_of HT_.out kr_) (fun _ _ _ h => h) (Or.inl ⟨by rfl, ?_⟩) ?_ ?_
            rotate_left
            ·intro w'
             go_simp
             with_reducible rfl
            rotate_left
            ·simp only [Act.put, sx_, s0_, s1_, i64_w, i32_w]
             rfl
            refine pure_ (i := 22) (N := some 114) (v := ?_) (a' := ?_) #[true, true, true, true, true, true, true, true, true, true, true, true, true, true, true, true, false, true, false, true, true, false, true, false, false, false, false, false, false, false] rfl rfl (any_of HT_.out kr_) (fun _ _ _ h => h) (Or.inl ⟨by rfl, ?_⟩) ?_ ?_
            rotate_left
            ·intro w'
             go_simp
             with_reducible rfl
            rotate_left
            ·simp only [Act.put, sx_, s0_, s1_, i64_w, i32_w]
             rfl
            refine take_ (i := 16) (N := some 108) (v := ?_) (a' := ?_) #[true, true, true, true, true, true, true, true, true, true, true, true, true, true, true, true, true, true, false, true, true, false, true, false, false, false, false, false, false, false] rfl rfl (take_ofW HT_.out HW_.out kr_) (fun _ _ _ h => h) (Or.inl ⟨by rfl, ?_⟩) hHeld ?_ ?_
            rotate_left
            ·rintro w' ⟨s0, s1, s2, s3, s4, s5, s6, s7, s8, s9, s10, s11, s12, s13⟩
             go_simp
             with_reducible rfl
            rotate_left
            ·simp only [Act.put, sx_, s0_, s1_, i64_w, i32_w]
             rfl
            refine take_ (i := 21) (N := some 113) (v := ?_) (a' := ?_) #[true, true, true, true, true, true, true, true, true, true, true, true, true, true, true, true, true, true, false, true, true, true, true, false, false, false, false, false, false, false] rfl rfl (take_ofW HT_.out HW_.out kr_) (fun _ _ _ h => h) (Or.inl ⟨by rfl, ?_⟩) hHeld ?_ ?_
            rotate_left
            ·rintro w' ⟨s0, s1, s2, s3, s4, s5, s6, s7, s8, s9, s10, s11, s12, s13⟩
             go_simp
             with_reducible rfl
            rotate_left
            ·simp only [Act.put, sx_, s0_, s1_, i64_w, i32_w]
             rfl
            refine one_ (i := 18) (N := some 110) #[true, true, true, true, true, true, true, true, true, true, true, true, true, true, true, true, true, true, true, true, true, true, true, false, false, false, false, false, false, false] rfl rfl (one_of HT_.out kr_) (by decide) (fun K hK => ?_)
            refine goes_ Tryz.func26 kr_ rfl #[.slice Ao52 t476.length co52, .string t469] (by rfl) rfl rfl rl_ ?_
            with_reducible refine (tollref05_All.calls k2 _ _ t476 t469 t501 _ ?side1 ?side2 A97.out).mono ?_
            (case side1 => exact C_ (Kd.V_reads' HO_481004.out).2.2)
            (case side2 => exact (Kd.V_reads' HO_481004.out).2.1)
            rintro e w106 ⟨v502, rfl, ho0, hb⟩
            refine ⟨_, rfl, ?_⟩
            have n0_ := am_ (Kd.R_below (R_ HO_454000.out) hb)
            have n1_ := am_ (Kd.R_below (R_ HO_454006.out) hb)
            have n2_ := am_ (Kd.R_below (R_ HO_454007.out) hb)
            have n3_ := am_ (Kd.V_elder' (by (with_reducible repeat (first | apply Kd.V_alloc | apply Kd.V_drewN | apply Kd.V_drew)); exact HO_481003.out) (Kd.R_base ho0) hb)
            have n4_ := am_ (Kd.V_elder' (by (with_reducible repeat (first | apply Kd.V_alloc | apply Kd.V_drewN | apply Kd.V_drew)); exact HO_481004.out) (Kd.R_base ho0) hb)
            have n5_ := am_ (Kd.V_elder' (by (with_reducible repeat (first | apply Kd.V_alloc | apply Kd.V_drewN | apply Kd.V_drew)); exact HO_494003.out) (Kd.R_base ho0) hb)
            have n6_ := am_ (Kd.V_elder' (by (with_reducible repeat (first | apply Kd.V_alloc | apply Kd.V_drewN | apply Kd.V_drew)); exact HO_494004.out) (Kd.R_base ho0) hb)
            have n7_ := am_ (Kd.R_lower ho0 (below_size (bel_ HB.out)))
            have n8_ := am_ (blk_below (g := gb453) (o := .cells #[.slice Ao41 t454.length co41, .int .i64 t457, .string t458, .string t459, .string t460, .string t461, .slice Ao43 t462.length co43, .slice Ao44 t465.length co44, .bool t468] 35 (0, 0)) (blk_ BK453.out) hb)
            have n9_ := am_ (blk_below (g := gb480) (o := .cells #[.string t470, .string t471, .string t472, .slice Ao51 t473.length co51, .slice Ao52 t476.length co52] 33 (0, 0)) (blk_ BK480.out) hb)
            have n10_ := am_ (blk_below (g := gb493) (o := .cells #[.string t483, .string t484, .string t485, .slice Ao60 t486.length co60, .slice Ao61 t489.length co61] 33 (0, 0)) (blk_ BK493.out) hb)
            have n11_ := am_ (below_step (bel_ HB.out) hb)
            clear HO_454000 HO_454006 HO_454007 HO_481003 HO_481004 HO_494003 HO_494004 BK453 BK480 BK493 HB
            have HO_454000 := n0_
            have HO_454006 := n1_
            have HO_454007 := n2_
            have HO_481003 := n3_
            have HO_481004 := n4_
            have HO_494003 := n5_
            have HO_494004 := n6_
            have HO503 := n7_
            have BK453 := n8_
            have BK480 := n9_
            have BK493 := n10_
            have HB := n11_
            clear n0_ n1_ n2_ n3_ n4_ n5_ n6_ n7_ n8_ n9_ n10_ n11_
            (try clear hb)
            (try clear hb2)
            (try clear hk)
            (try clear hi)
            (try clear ho0)
            refine hK.out _ _ ⟨(blk_cell BK480.out 0).trans rfl, (blk_cell BK480.out 1).trans rfl, (blk_cell BK480.out 2).trans rfl, (blk_cell BK480.out 3).trans rfl, (blk_cell BK480.out 4).trans rfl, (blk_cell BK453.out 0).trans rfl, (blk_cell BK453.out 1).trans rfl, (blk_cell BK453.out 2).trans rfl, (blk_cell BK453.out 3).trans rfl, (blk_cell BK453.out 4).trans rfl, (blk_cell BK453.out 5).trans rfl, (blk_cell BK453.out 6).trans rfl, (blk_cell BK453.out 7).trans rfl, (blk_cell BK453.out 8).trans rfl⟩ (fun hHeld => ?_)
            clear hK K
            refine norm_ (a' := ?_) ?_ ?_
            rotate_left
            ·show Act.put _ (some 110) _ = _
             simp only [Act.put, sx_, s0_, s1_, i64_w, i32_w]
             rfl
            refine one_ (i := 23) (N := some 115) #[true, true, true, true, true, true, true, true, true, true, true, true, true, true, true, true, true, true, true, true, true, true, true, true, false, false, false, false, false, false] rfl rfl (one_of HT_.out kr_) (by decide) (fun K hK => ?_)
            refine goes_ Tryz.func26 kr_ rfl #[.slice Ao44 t465.length co44, .string t469] (by rfl) rfl rfl rl_ ?_
            with_reducible refine (tollref05_All.calls k2 _ _ t465 t469 t504 _ ?side1 ?side2 A98.out).mono ?_
            (case side1 => exact C_ (Kd.R_reads' HO_454007.out).2.2)
            (case side2 => exact (Kd.R_reads' HO_454007.out).2.1)
            rintro e w107 ⟨v505, rfl, ho0, hb⟩
            refine ⟨_, rfl, ?_⟩
            have n0_ := am_ (Kd.R_below (R_ HO_454000.out) hb)
            have n1_ := am_ (Kd.R_below (R_ HO_454006.out) hb)
            have n2_ := am_ (Kd.R_below (R_ HO_454007.out) hb)
            have n3_ := am_ (Kd.V_elder' (by (with_reducible repeat (first | apply Kd.V_alloc | apply Kd.V_drewN | apply Kd.V_drew)); exact HO_481003.out) (Kd.R_base ho0) hb)
            have n4_ := am_ (Kd.V_elder' (by (with_reducible repeat (first | apply Kd.V_alloc | apply Kd.V_drewN | apply Kd.V_drew)); exact HO_481004.out) (Kd.R_base ho0) hb)
            have n5_ := am_ (Kd.V_elder' (by (with_reducible repeat (first | apply Kd.V_alloc | apply Kd.V_drewN | apply Kd.V_drew)); exact HO_494003.out) (Kd.R_base ho0) hb)
            have n6_ := am_ (Kd.V_elder' (by (with_reducible repeat (first | apply Kd.V_alloc | apply Kd.V_drewN | apply Kd.V_drew)); exact HO_494004.out) (Kd.R_base ho0) hb)
            have n7_ := am_ (Kd.R_elder' (R_ HO503.out) (Kd.R_base ho0) hb)
            have n8_ := am_ (Kd.R_lower (Kd.R_new' ho0 (Kd.R_lt (R_ HO503.out))) (below_size (bel_ HB.out)))
            have n9_ := am_ (blk_below (g := gb453) (o := .cells #[.slice Ao41 t454.length co41, .int .i64 t457, .string t458, .string t459, .string t460, .string t461, .slice Ao43 t462.length co43, .slice Ao44 t465.length co44, .bool t468] 35 (0, 0)) (blk_ BK453.out) hb)
            have n10_ := am_ (blk_below (g := gb480) (o := .cells #[.string t470, .string t471, .string t472, .slice Ao51 t473.length co51, .slice Ao52 t476.length co52] 33 (0, 0)) (blk_ BK480.out) hb)
            have n11_ := am_ (blk_below (g := gb493) (o := .cells #[.string t483, .string t484, .string t485, .slice Ao60 t486.length co60, .slice Ao61 t489.length co61] 33 (0, 0)) (blk_ BK493.out) hb)
            have n12_ := am_ (below_step (bel_ HB.out) hb)
            clear HO_454000 HO_454006 HO_454007 HO_481003 HO_481004 HO_494003 HO_494004 HO503 BK453 BK480 BK493 HB
            have HO_454000 := n0_
            have HO_454006 := n1_
            have HO_454007 := n2_
            have HO_481003 := n3_
            have HO_481004 := n4_
            have HO_494003 := n5_
            have HO_494004 := n6_
            have HO503 := n7_
            have HO506 := n8_
            have BK453 := n9_
            have BK480 := n10_
            have BK493 := n11_
            have HB := n12_
            clear n0_ n1_ n2_ n3_ n4_ n5_ n6_ n7_ n8_ n9_ n10_ n11_ n12_
            (try clear hb)
            (try clear hb2)
            (try clear hk)
            (try clear hi)
            (try clear ho0)
            obtain ⟨Ao108, co108, eo108⟩ := Kd.R_slice HO503.out
            (first | subst eo108 | (injection eo108 with f1_ f2_ f3_; have f4_ := f1_.symm; have f5_ := f3_.symm; clear f1_ f2_ f3_; subst f4_; subst f5_))
            obtain ⟨Ao109, co109, eo109⟩ := Kd.R_slice HO506.out
            (first | subst eo109 | (injection eo109 with f1_ f2_ f3_; have f4_ := f1_.symm; have f5_ := f3_.symm; clear f1_ f2_ f3_; subst f4_; subst f5_))
            refine hK.out _ _ ⟨(blk_cell BK480.out 0).trans rfl, (blk_cell BK480.out 1).trans rfl, (blk_cell BK480.out 2).trans rfl, (blk_cell BK480.out 3).trans rfl, (blk_cell BK480.out 4).trans rfl, (blk_cell BK453.out 0).trans rfl, (blk_cell BK453.out 1).trans rfl, (blk_cell BK453.out 2).trans rfl, (blk_cell BK453.out 3).trans rfl, (blk_cell BK453.out 4).trans rfl, (blk_cell BK453.out 5).trans rfl, (blk_cell BK453.out 6).trans rfl, (blk_cell BK453.out 7).trans rfl, (blk_cell BK453.out 8).trans rfl⟩ (fun hHeld => ?_)
            clear hK K
            refine norm_ (a' := ?_) ?_ ?_
            rotate_left
            ·show Act.put _ (some 115) _ = _
             simp only [Act.put, sx_, s0_, s1_, i64_w, i32_w]
             rfl
            refine one_ (i := 24) (N := some 116) #[true, true, true, true, true, true, true, true, true, true, true, true, true, true, true, true, true, true, true, true, true, true, true, true, true, false, false, false, false, false] rfl rfl (one_of HT_.out kr_) (by decide) (fun K hK => ?_)
            refine goes_ Tryz.func25 kr_ rfl #[.slice Ao108 t501.length co108, .slice Ao109 t504.length co109] (by rfl) rfl rfl rl_ ?_
            with_reducible refine (tollref01_Same.calls k2 _ _ t501 _ _ t504 true _ ?side1 ?side2 ?side3 ?side4 A99.out).mono ?_
            (case side1 => exact C_ (Kd.R_reads' HO503.out).2.2)
            (case side2 => exact (Kd.R_reads' HO503.out).2.1)
            (case side3 => exact C_ (Kd.R_reads' HO506.out).2.2)
            (case side4 => exact (Kd.R_reads' HO506.out).2.1)
            rintro e w' ⟨rfl, ⟨nd, rfl⟩⟩
            refine ⟨_, rfl, ?_⟩
            refine hK.out _ _ ⟨(blk_cell BK480.out 0).trans rfl, (blk_cell BK480.out 1).trans rfl, (blk_cell BK480.out 2).trans rfl, (blk_cell BK480.out 3).trans rfl, (blk_cell BK480.out 4).trans rfl, (blk_cell BK453.out 0).trans rfl, (blk_cell BK453.out 1).trans rfl, (blk_cell BK453.out 2).trans rfl, (blk_cell BK453.out 3).trans rfl, (blk_cell BK453.out 4).trans rfl, (blk_cell BK453.out 5).trans rfl, (blk_cell BK453.out 6).trans rfl, (blk_cell BK453.out 7).trans rfl, (blk_cell BK453.out 8).trans rfl⟩ (fun hHeld => ?_)
            clear hK K
            refine norm_ (a' := ?_) ?_ ?_
            rotate_left
            ·show Act.put _ (some 116) _ = _
             simp only [Act.put, sx_, s0_, s1_, i64_w, i32_w]
             rfl
            refine pure_ (i := 25) (N := some 117) (v := ?_) (a' := ?_) #[true, true, true, true, true, true, true, true, true, true, true, true, true, true, true, true, true, true, true, true, true, true, true, true, true, true, false, false, false, false] rfl rfl (any_of HT_.out kr_) (fun _ _ _ h => h) (Or.inl ⟨by rfl, ?_⟩) ?_ ?_
            rotate_left
            ·intro w'
             go_simp
             with_reducible rfl
            rotate_left
            ·simp only [Act.put, sx_, s0_, s1_, i64_w, i32_w]
             rfl
            refine pure_ (i := 26) (N := some 118) (v := ?_) (a' := ?_) #[true, true, true, true, true, true, true, true, true, true, true, true, true, true, true, true, true, true, true, true, true, true, true, true, true, true, true, false, false, false] rfl rfl (any_of HT_.out kr_) (fun _ _ _ h => h) (Or.inl ⟨by rfl, ?_⟩) ?_ ?_
            rotate_left
            ·intro w'
             go_simp
             with_reducible rfl
            rotate_left
            ·simp only [Act.put, sx_, s0_, s1_, i64_w, i32_w]
             rfl
            refine one_ (i := 27) (N := some 119) #[true, true, true, true, true, true, true, true, true, true, true, true, true, true, true, true, true, true, true, true, true, true, true, true, true, true, true, true, false, false] rfl rfl (one_of HT_.out kr_) (by decide) (fun K hK => ?_)
            refine goes_ Tryz.func14 kr_ rfl #[] (by rfl) rfl rfl rl_ ?_
            with_reducible refine (tolllaw07_awake.calls k2  t508 _ (gm_ HGL.out (bel_ HB.out)) A101.out).mono ?_
            rintro e w110 ⟨rfl, hb⟩
            refine ⟨_, rfl, ?_⟩
            have n0_ := am_ (Kd.R_below (R_ HO_454000.out) hb)
            have n1_ := am_ (Kd.R_below (R_ HO_454006.out) hb)
            have n2_ := am_ (Kd.R_below (R_ HO_454007.out) hb)
            have n3_ := am_ (Kd.V_below (by (with_reducible repeat (first | apply Kd.V_alloc | apply Kd.V_drewN | apply Kd.V_drew)); exact HO_481003.out) hb)
            have n4_ := am_ (Kd.V_below (by (with_reducible repeat (first | apply Kd.V_alloc | apply Kd.V_drewN | apply Kd.V_drew)); exact HO_481004.out) hb)
            have n5_ := am_ (Kd.V_below (by (with_reducible repeat (first | apply Kd.V_alloc | apply Kd.V_drewN | apply Kd.V_drew)); exact HO_494003.out) hb)
            have n6_ := am_ (Kd.V_below (by (with_reducible repeat (first | apply Kd.V_alloc | apply Kd.V_drewN | apply Kd.V_drew)); exact HO_494004.out) hb)
            have n7_ := am_ (Kd.R_below (R_ HO503.out) hb)
            have n8_ := am_ (Kd.R_below (R_ HO506.out) hb)
            have n9_ := am_ (blk_below (g := gb453) (o := .cells #[.slice Ao41 t454.length co41, .int .i64 t457, .string t458, .string t459, .string t460, .string t461, .slice Ao43 t462.length co43, .slice Ao44 t465.length co44, .bool t468] 35 (0, 0)) (blk_ BK453.out) hb)
            have n10_ := am_ (blk_below (g := gb480) (o := .cells #[.string t470, .string t471, .string t472, .slice Ao51 t473.length co51, .slice Ao52 t476.length co52] 33 (0, 0)) (blk_ BK480.out) hb)
            have n11_ := am_ (blk_below (g := gb493) (o := .cells #[.string t483, .string t484, .string t485, .slice Ao60 t486.length co60, .slice Ao61 t489.length co61] 33 (0, 0)) (blk_ BK493.out) hb)
            have n12_ := am_ (below_step (bel_ HB.out) hb)
            clear HO_454000 HO_454006 HO_454007 HO_481003 HO_481004 HO_494003 HO_494004 HO503 HO506 BK453 BK480 BK493 HB
            have HO_454000 := n0_
            have HO_454006 := n1_
            have HO_454007 := n2_
            have HO_481003 := n3_
            have HO_481004 := n4_
            have HO_494003 := n5_
            have HO_494004 := n6_
            have HO503 := n7_
            have HO506 := n8_
            have BK453 := n9_
            have BK480 := n10_
            have BK493 := n11_
            have HB := n12_
            clear n0_ n1_ n2_ n3_ n4_ n5_ n6_ n7_ n8_ n9_ n10_ n11_ n12_
            (try clear hb)
            (try clear hb2)
            (try clear hk)
            (try clear hi)
            refine hK.out _ _ ⟨(blk_cell BK480.out 0).trans rfl, (blk_cell BK480.out 1).trans rfl, (blk_cell BK480.out 2).trans rfl, (blk_cell BK480.out 3).trans rfl, (blk_cell BK480.out 4).trans rfl, (blk_cell BK453.out 0).trans rfl, (blk_cell BK453.out 1).trans rfl, (blk_cell BK453.out 2).trans rfl, (blk_cell BK453.out 3).trans rfl, (blk_cell BK453.out 4).trans rfl, (blk_cell BK453.out 5).trans rfl, (blk_cell BK453.out 6).trans rfl, (blk_cell BK453.out 7).trans rfl, (blk_cell BK453.out 8).trans rfl⟩ (fun hHeld => ?_)
            clear hK K
            refine norm_ (a' := ?_) ?_ ?_
            rotate_left
            ·show Act.put _ (some 119) _ = _
             simp only [Act.put, sx_, s0_, s1_, i64_w, i32_w]
             rfl
            refine pure_ (i := 28) (N := some 120) (v := ?_) (a' := ?_) #[true, true, true, true, true, true, true, true, true, true, true, true, true, true, true, true, true, true, true, true, true, true, true, true, true, true, true, true, true, false] rfl rfl (any_of HT_.out kr_) (fun _ _ _ h => h) (Or.inl ⟨by rfl, ?_⟩) ?_ ?_
            rotate_left
            ·intro w'
             go_simp
             with_reducible rfl
            rotate_left
            ·simp only [Act.put, sx_, s0_, s1_, i64_w, i32_w]
             rfl
            refine pure_ (i := 29) (N := some 4) (v := ?_) (a' := ?_) #[true, true, true, true, true, true, true, true, true, true, true, true, true, true, true, true, true, true, true, true, true, true, true, true, true, true, true, true, true, true] rfl rfl (any_of HT_.out kr_) (fun _ _ _ h => h) (Or.inl ⟨by rfl, ?_⟩) ?_ ?_
            rotate_left
            ·intro w'
             go_simp
             with_reducible rfl
            rotate_left
            ·simp only [Act.put, sx_, s0_, s1_, i64_w, i32_w]
             rfl
            refine done_ (done_of HT_.out kr_) ?_
            try go_wp2
            go_ret
            exact ⟨fi_, bel_ HB.out⟩
           ·replace c100 := Bool.eq_false_iff.mpr c100
            subst c100
            have H1 : (none) = some r := by rw [if_neg (show ¬ (false = true) by decide)] at H; exact H
            clear H
            have H := H1
            clear H1
            exact absurd H (by simp)
          ·replace c96 := Bool.eq_false_iff.mpr c96
           subst c96
           have H1 : (none) = some r := by rw [if_neg (show ¬ (false = true) by decide)] at H; exact H
           clear H
           have H := H1
           clear H1
           exact absurd H (by simp)
         ·rw [if_neg c94] at H
          exact absurd H (by simp)
 ·rw [if_neg c6] at H
  have c6b0 : (t479 == 0) = false := beq_eq_false_iff_ne.mpr c6
  have c6b1 : (t479 != 0) = true := bne_iff_ne.mpr c6
  replace H := Option.bind_eq_some_iff.mp H
  obtain ⟨t481, A1110, H⟩ := H
  replace H : (if t481 = true then ((tolllaw07_awake.f k).bind fun t482 => (some t482)) else (none)) = some r := H
  have A111 := Aside0.mk A1110
  clear A1110
  by_cases c112 : t481 = true
  ·subst c112
   have H1 : ((tolllaw07_awake.f k).bind fun t482 => (some t482)) = some r := by rw [if_pos rfl] at H; exact H
   clear H
   have H := H1
   clear H1
   replace H := Option.bind_eq_some_iff.mp H
   obtain ⟨t482, A1130, H⟩ := H
   replace H : (some t482) = some r := H
   have A113 := Aside0.mk A1130
   clear A1130
   obtain rfl := Option.some.inj H
   go_enter Tryz.func5, Tryz.ntmps5
   go_wp2_with (first | ((with_reducible refine gate_dst (N := 2) rfl ?_); refine box_event ?hg (N := 2) ?hd (cs := #[.slice A0_0 l0_0.length c0_0, .int .i64 a0_1, .string a0_2, .string a0_3, .string a0_4, .string a0_5, .slice A0_6 l0_6.length c0_6, .slice A0_7 l0_7.length c0_7, .bool a0_8]) (t := 35) ?hr ?_; (case hd => rfl); (case hg => rfl); (case hr => first | (go_simp; done) | (go_simp; rfl)); intro gb453 hg w114 hbox hb; have n0_ := am_ (below_step (bel_ HB.out) hb); have n1_ := am_ (hbox); have n2_ := am_ ((by rw [hg]; exact (below_size (bel_ HB.out)) : w.heap.size ≤ gb453)); have n3_ := am_ ((by rw [hg]; exact (below_size (bel_ HB.out)) : w.heap.size ≤ gb453)); clear HB; have HB := n0_; have BK453 := n1_; have GW453 := n2_; have GE453 := n3_; clear n0_ n1_ n2_ n3_ hb hbox hg; obtain ⟨hcz115_0, hcz115_1, hcz115_2, hcz115_3, hcz115_4, hcz115_5, hcz115_6, hcz115_7, hcz115_8, hfz115_0, hfz115_1, hfz115_2, hfz115_3, hfz115_4, hfz115_5, hfz115_6, hfz115_7, hfz115_8⟩ := blk9 BK453.out) | ((with_reducible refine gate_callee (f := 15) rfl ?_); refine goesL_ (some 11) rfl rfl Tryz.func15 kr_ rfl #[.agg #[.slice A0_0 l0_0.length c0_0, .int .i64 a0_1, .string a0_2, .string a0_3, .string a0_4, .string a0_5, .slice A0_6 l0_6.length c0_6, .slice A0_7 l0_7.length c0_7, .bool a0_8]] rfl rl_ ?_; (with_reducible refine (tolllaw07_cut.calls k _ _ l0_0 a0_1 a0_2 a0_3 a0_4 a0_5 _ _ l0_6 _ _ l0_7 a0_8 t454 t457 t458 t459 t460 t461 t462 t465 t468 _ ?side1 ?side2 ?side3 ?side4 ?side5 ?side6 A3.out).mono ?_); (case side1 => exact C_ (Kd.C_below HR0_0.out HB.out)); (case side2 => exact HC0_0.out); (case side3 => exact C_ (Kd.C_below HR0_6.out HB.out)); (case side4 => exact HC0_6.out); (case side5 => exact C_ (Kd.C_below HR0_7.out HB.out)); (case side6 => exact HC0_7.out); rintro e w116 ⟨v455, v463, v466, rfl, ho0, ho1, ho2, hb⟩; refine ⟨_, rfl, ?_⟩; have n0_ := am_ (Kd.R_lower ho0 (below_size (bel_ HB.out))); have n1_ := am_ (Kd.R_lower ho1 (below_size (bel_ HB.out))); have n2_ := am_ (Kd.R_lower ho2 (below_size (bel_ HB.out))); have n3_ := am_ (blk_below (g := gb453) (o := .cells #[.slice A0_0 l0_0.length c0_0, .int .i64 a0_1, .string a0_2, .string a0_3, .string a0_4, .string a0_5, .slice A0_6 l0_6.length c0_6, .slice A0_7 l0_7.length c0_7, .bool a0_8] 35 (0, 0)) (blk_ BK453.out) hb); have n4_ := am_ (below_step (bel_ HB.out) hb); clear BK453 HB; have HO456 := n0_; have HO464 := n1_; have HO467 := n2_; have BK453 := n3_; have HB := n4_; clear n0_ n1_ n2_ n3_ n4_; (try clear hb); (try clear hb2); (try clear hk); (try clear hi); (try clear ho0); (try clear ho1); (try clear ho2)) | ((with_reducible refine gate_callee (f := 22) rfl ?_); refine goesL_ (some 13) rfl rfl Tryz.func22 kr_ rfl #[.string a1] rfl rl_ ?_; (with_reducible refine (tolllaw01_Few.calls a1 t469 _ A4.out).mono ?_); rintro e w' ⟨rfl, ⟨nd, rfl⟩⟩; refine ⟨_, rfl, ?_⟩; (try (rw [drewN_self w116]; generalize hq_ : World.drewN w116 _ = w116; have n0_ : Aside0 (Kd.R k26 26 w116 w.heap.size (fun _ => True) v455 t454) := ⟨by rw [← hq_]; exact (R_ HO456.out)⟩; have n1_ : Aside0 (Kd.R k59 59 w116 w.heap.size (fun k_ => some k_ ≠ (v466 : Value).ownBlock) v463 t462) := ⟨by rw [← hq_]; exact (R_ HO464.out)⟩; have n2_ : Aside0 (Kd.R k59 59 w116 w.heap.size (fun k_ => some k_ ≠ (v463 : Value).ownBlock) v466 t465) := ⟨by rw [← hq_]; exact (R_ HO467.out)⟩; have n3_ : Aside0 (w116.heap[gb453]? = some (.cells #[.slice A0_0 l0_0.length c0_0, .int .i64 a0_1, .string a0_2, .string a0_3, .string a0_4, .string a0_5, .slice A0_6 l0_6.length c0_6, .slice A0_7 l0_7.length c0_7, .bool a0_8] 35 (0, 0))) := ⟨by rw [← hq_]; exact (blk_ BK453.out)⟩; have n4_ : Aside0 (Below w.heap.size w w116) := ⟨by rw [← hq_]; exact (bel_ HB.out)⟩; clear HO456 HO464 HO467 BK453 HB hq_; have HO456 := n0_; have HO464 := n1_; have HO467 := n2_; have BK453 := n3_; have HB := n4_; clear n0_ n1_ n2_ n3_ n4_)); obtain ⟨Ao117, co117, eo117⟩ := Kd.R_slice HO456.out; subst eo117; obtain ⟨hcz118_0, hcz118_1, hcz118_2, hcz118_3, hcz118_4, hcz118_5, hcz118_6, hcz118_7, hcz118_8, hfz118_0, hfz118_1, hfz118_2, hfz118_3, hfz118_4, hfz118_5, hfz118_6, hfz118_7, hfz118_8⟩ := blk9 BK453.out; obtain ⟨Ao119, co119, eo119⟩ := Kd.R_slice HO464.out; subst eo119; obtain ⟨Ao120, co120, eo120⟩ := Kd.R_slice HO467.out; subst eo120) | ((with_reducible refine gate_store (t := 35) (p := 2) rfl ?_); refine store_event (t := 35) (p := 2) (v := ?vo_w121) (w1 := (((((((((w116.setCell ⟨gb453, 0, none⟩ (.slice Ao117 t454.length co117)).setCell ⟨gb453, 1, none⟩ (.int .i64 t457)).setCell ⟨gb453, 2, none⟩ (.string t458)).setCell ⟨gb453, 3, none⟩ (.string t459)).setCell ⟨gb453, 4, none⟩ (.string t460)).setCell ⟨gb453, 5, none⟩ (.string t461)).setCell ⟨gb453, 6, none⟩ (.slice Ao119 t462.length co119)).setCell ⟨gb453, 7, none⟩ (.slice Ao120 t465.length co120)).setCell ⟨gb453, 8, none⟩ (.bool t468))) ?hg ?ho ?hn ?hr ?_; (case ho => rfl); (case hg => rfl); (case hn => rfl); (case hr => first | (go_simp; done) | (go_simp; rfl)); intro w121 hw; have n0_ : Aside0 (Kd.R k26 26 w121 w.heap.size (fun _ => True) (.slice Ao117 t454.length co117) t454) := ⟨(by rw [hw]; exact (by (with_reducible repeat (first | apply Kd.R_alloc | apply Kd.R_drewN | apply Kd.R_drew)); exact Kd.R_mono (Kd.R_far (p := ⟨gb453, 8, none⟩) (Kd.R_far (p := ⟨gb453, 7, none⟩) (Kd.R_far (p := ⟨gb453, 6, none⟩) (Kd.R_far (p := ⟨gb453, 5, none⟩) (Kd.R_far (p := ⟨gb453, 4, none⟩) (Kd.R_far (p := ⟨gb453, 3, none⟩) (Kd.R_far (p := ⟨gb453, 2, none⟩) (Kd.R_far (p := ⟨gb453, 1, none⟩) (Kd.R_far (p := ⟨gb453, 0, none⟩) (Kd.R_types HO456.out BK453.out (by decide)) (fun _ hk => hk.2) (.slice Ao117 t454.length co117)) (fun _ hk => hk.2) (.int .i64 t457)) (fun _ hk => hk.2) (.string t458)) (fun _ hk => hk.2) (.string t459)) (fun _ hk => hk.2) (.string t460)) (fun _ hk => hk.2) (.string t461)) (fun _ hk => hk.2) (.slice Ao119 t462.length co119)) (fun _ hk => hk.2) (.slice Ao120 t465.length co120)) (fun _ hk => hk.2) (.bool t468)) (fun _ hk => trivial)))⟩; have n1_ : Aside0 (Kd.R k59 59 w121 w.heap.size (fun k_ => some k_ ≠ (.slice Ao120 t465.length co120 : Value).ownBlock) (.slice Ao119 t462.length co119) t462) := ⟨(by rw [hw]; exact (by (with_reducible repeat (first | apply Kd.R_alloc | apply Kd.R_drewN | apply Kd.R_drew)); exact Kd.R_mono (Kd.R_far (p := ⟨gb453, 8, none⟩) (Kd.R_far (p := ⟨gb453, 7, none⟩) (Kd.R_far (p := ⟨gb453, 6, none⟩) (Kd.R_far (p := ⟨gb453, 5, none⟩) (Kd.R_far (p := ⟨gb453, 4, none⟩) (Kd.R_far (p := ⟨gb453, 3, none⟩) (Kd.R_far (p := ⟨gb453, 2, none⟩) (Kd.R_far (p := ⟨gb453, 1, none⟩) (Kd.R_far (p := ⟨gb453, 0, none⟩) (Kd.R_types HO464.out BK453.out (by decide)) (fun _ hk => hk.2) (.slice Ao117 t454.length co117)) (fun _ hk => hk.2) (.int .i64 t457)) (fun _ hk => hk.2) (.string t458)) (fun _ hk => hk.2) (.string t459)) (fun _ hk => hk.2) (.string t460)) (fun _ hk => hk.2) (.string t461)) (fun _ hk => hk.2) (.slice Ao119 t462.length co119)) (fun _ hk => hk.2) (.slice Ao120 t465.length co120)) (fun _ hk => hk.2) (.bool t468)) (fun _ hk => hk.1)))⟩; have n2_ : Aside0 (Kd.R k59 59 w121 w.heap.size (fun k_ => some k_ ≠ (.slice Ao119 t462.length co119 : Value).ownBlock) (.slice Ao120 t465.length co120) t465) := ⟨(by rw [hw]; exact (by (with_reducible repeat (first | apply Kd.R_alloc | apply Kd.R_drewN | apply Kd.R_drew)); exact Kd.R_mono (Kd.R_far (p := ⟨gb453, 8, none⟩) (Kd.R_far (p := ⟨gb453, 7, none⟩) (Kd.R_far (p := ⟨gb453, 6, none⟩) (Kd.R_far (p := ⟨gb453, 5, none⟩) (Kd.R_far (p := ⟨gb453, 4, none⟩) (Kd.R_far (p := ⟨gb453, 3, none⟩) (Kd.R_far (p := ⟨gb453, 2, none⟩) (Kd.R_far (p := ⟨gb453, 1, none⟩) (Kd.R_far (p := ⟨gb453, 0, none⟩) (Kd.R_types HO467.out BK453.out (by decide)) (fun _ hk => hk.2) (.slice Ao117 t454.length co117)) (fun _ hk => hk.2) (.int .i64 t457)) (fun _ hk => hk.2) (.string t458)) (fun _ hk => hk.2) (.string t459)) (fun _ hk => hk.2) (.string t460)) (fun _ hk => hk.2) (.string t461)) (fun _ hk => hk.2) (.slice Ao119 t462.length co119)) (fun _ hk => hk.2) (.slice Ao120 t465.length co120)) (fun _ hk => hk.2) (.bool t468)) (fun _ hk => hk.1)))⟩; have n3_ : Aside0 (w121.heap[gb453]? = some (.cells #[.slice Ao117 t454.length co117, .int .i64 t457, .string t458, .string t459, .string t460, .string t461, .slice Ao119 t462.length co119, .slice Ao120 t465.length co120, .bool t468] 35 (0, 0))) := ⟨(by rw [hw]; exact (by (with_reducible repeat (first | refine blk_drewN ?_ _ | refine blk_drew ?_ | refine blk_alloc ?_ _)); refine blk_put (cs := #[.slice Ao117 t454.length co117, .int .i64 t457, .string t458, .string t459, .string t460, .string t461, .slice Ao119 t462.length co119, .slice Ao120 t465.length co120, .bool a0_8]) ?_ 8 _ rfl; (with_reducible repeat (first | refine blk_drewN ?_ _ | refine blk_drew ?_ | refine blk_alloc ?_ _)); refine blk_put (cs := #[.slice Ao117 t454.length co117, .int .i64 t457, .string t458, .string t459, .string t460, .string t461, .slice Ao119 t462.length co119, .slice A0_7 l0_7.length c0_7, .bool a0_8]) ?_ 7 _ rfl; (with_reducible repeat (first | refine blk_drewN ?_ _ | refine blk_drew ?_ | refine blk_alloc ?_ _)); refine blk_put (cs := #[.slice Ao117 t454.length co117, .int .i64 t457, .string t458, .string t459, .string t460, .string t461, .slice A0_6 l0_6.length c0_6, .slice A0_7 l0_7.length c0_7, .bool a0_8]) ?_ 6 _ rfl; (with_reducible repeat (first | refine blk_drewN ?_ _ | refine blk_drew ?_ | refine blk_alloc ?_ _)); refine blk_put (cs := #[.slice Ao117 t454.length co117, .int .i64 t457, .string t458, .string t459, .string t460, .string a0_5, .slice A0_6 l0_6.length c0_6, .slice A0_7 l0_7.length c0_7, .bool a0_8]) ?_ 5 _ rfl; (with_reducible repeat (first | refine blk_drewN ?_ _ | refine blk_drew ?_ | refine blk_alloc ?_ _)); refine blk_put (cs := #[.slice Ao117 t454.length co117, .int .i64 t457, .string t458, .string t459, .string a0_4, .string a0_5, .slice A0_6 l0_6.length c0_6, .slice A0_7 l0_7.length c0_7, .bool a0_8]) ?_ 4 _ rfl; (with_reducible repeat (first | refine blk_drewN ?_ _ | refine blk_drew ?_ | refine blk_alloc ?_ _)); refine blk_put (cs := #[.slice Ao117 t454.length co117, .int .i64 t457, .string t458, .string a0_3, .string a0_4, .string a0_5, .slice A0_6 l0_6.length c0_6, .slice A0_7 l0_7.length c0_7, .bool a0_8]) ?_ 3 _ rfl; (with_reducible repeat (first | refine blk_drewN ?_ _ | refine blk_drew ?_ | refine blk_alloc ?_ _)); refine blk_put (cs := #[.slice Ao117 t454.length co117, .int .i64 t457, .string a0_2, .string a0_3, .string a0_4, .string a0_5, .slice A0_6 l0_6.length c0_6, .slice A0_7 l0_7.length c0_7, .bool a0_8]) ?_ 2 _ rfl; (with_reducible repeat (first | refine blk_drewN ?_ _ | refine blk_drew ?_ | refine blk_alloc ?_ _)); refine blk_put (cs := #[.slice Ao117 t454.length co117, .int .i64 a0_1, .string a0_2, .string a0_3, .string a0_4, .string a0_5, .slice A0_6 l0_6.length c0_6, .slice A0_7 l0_7.length c0_7, .bool a0_8]) ?_ 1 _ rfl; (with_reducible repeat (first | refine blk_drewN ?_ _ | refine blk_drew ?_ | refine blk_alloc ?_ _)); refine blk_put (cs := #[.slice A0_0 l0_0.length c0_0, .int .i64 a0_1, .string a0_2, .string a0_3, .string a0_4, .string a0_5, .slice A0_6 l0_6.length c0_6, .slice A0_7 l0_7.length c0_7, .bool a0_8]) ?_ 0 _ rfl; (with_reducible repeat (first | refine blk_drewN ?_ _ | refine blk_drew ?_ | refine blk_alloc ?_ _)); exact BK453.out))⟩; have n4_ : Aside0 (Below w.heap.size w w121) := ⟨(by rw [hw]; exact (bel_ HB.out))⟩; clear hw HO456 HO464 HO467 BK453 HB; have HO456 := n0_; have HO464 := n1_; have HO467 := n2_; have BK453 := n3_; have HB := n4_; clear n0_ n1_ n2_ n3_ n4_; obtain ⟨hcz122_0, hcz122_1, hcz122_2, hcz122_3, hcz122_4, hcz122_5, hcz122_6, hcz122_7, hcz122_8, hfz122_0, hfz122_1, hfz122_2, hfz122_3, hfz122_4, hfz122_5, hfz122_6, hfz122_7, hfz122_8⟩ := blk9 BK453.out) | ((with_reducible refine gate_callee (f := 17) rfl ?_); refine goesL_ (some 21) rfl rfl Tryz.func17 kr_ rfl #[.slice Ao117 t454.length co117, .agg #[.int .i64 t457, .string t458], .agg #[.string t459, .string t460, .string t461, .slice Ao119 t462.length co119, .slice Ao120 t465.length co120]] rfl rl_ ?_; (with_reducible refine (filter_Do.calls k _ _ t454 t457 t458 t459 t460 t461 (fun k_ => some k_ = (.slice Ao119 t462.length co119 : Value).ownBlock) _ _ t462 (fun k_ => some k_ = (.slice Ao120 t465.length co120 : Value).ownBlock) _ _ t465 t470 t471 t472 t473 t476 t479 _ ?side1 ?side2 ?side3 ?side4 A5.out).mono ?_); (case side1 => exact C_ (Kd.R_reads' HO456.out).2.2); (case side2 => exact (Kd.R_reads' HO456.out).2.1); (case side3 => exact Kd.R_V (Kd.R_tight rfl (Kd.R_types (Kd.R_apart' (HO464.out) (Kd.R_typed HO456.out) (by decide)) BK453.out (by decide)))); (case side4 => exact Kd.R_V (Kd.R_tight rfl (Kd.R_types (Kd.R_apart' (HO467.out) (Kd.R_typed HO456.out) (by decide)) BK453.out (by decide)))); rintro e w123 ⟨v474, v477, rfl, ho0, ho1, hb⟩; refine ⟨_, rfl, ?_⟩; have n0_ := am_ (Kd.R_below (R_ HO456.out) hb); have n1_ := am_ (Kd.R_below (R_ HO464.out) hb); have n2_ := am_ (Kd.R_below (R_ HO467.out) hb); have n3_ := am_ (Kd.V_lower (Kd.V_mono (ok' := fun k_ => some k_ ≠ (.slice Ao117 t454.length co117 : Value).ownBlock ∧ k_ ≠ gb453) ho0 (fun k_ hk_ => ⟨Or.elim hk_ (fun hs_ => Or.elim hs_ (fun hs_ => ((Kd.R_types (Kd.R_apart' (HO464.out) (Kd.R_typed HO456.out) (by decide)) BK453.out (by decide)).1 k_ hs_.symm).1.2) (fun hs_ => ((Kd.R_types (Kd.R_apart' (HO467.out) (Kd.R_typed HO456.out) (by decide)) BK453.out (by decide)).1 k_ hs_.symm).1.2)) (fun hn_ => (Kd.fresh' (Kd.R_lt (R_ HO456.out)) k_ hn_)), Or.elim hk_ (fun hs_ => Or.elim hs_ (fun hs_ => ((Kd.R_types (Kd.R_apart' (HO464.out) (Kd.R_typed HO456.out) (by decide)) BK453.out (by decide)).1 k_ hs_.symm).2) (fun hs_ => ((Kd.R_types (Kd.R_apart' (HO467.out) (Kd.R_typed HO456.out) (by decide)) BK453.out (by decide)).1 k_ hs_.symm).2)) (fun hn_ => (Kd.freshB (g := gb453) (o := .cells #[.slice Ao117 t454.length co117, .int .i64 t457, .string t458, .string t459, .string t460, .string t461, .slice Ao119 t462.length co119, .slice Ao120 t465.length co120, .bool t468] 35 (0, 0)) (blk_ BK453.out) k_ hn_))⟩)) (below_size (bel_ HB.out))); have n4_ := am_ (Kd.V_lower (Kd.V_mono (ok' := fun k_ => some k_ ≠ (.slice Ao117 t454.length co117 : Value).ownBlock ∧ k_ ≠ gb453) ho1 (fun k_ hk_ => ⟨Or.elim hk_ (fun hs_ => Or.elim hs_ (fun hs_ => ((Kd.R_types (Kd.R_apart' (HO464.out) (Kd.R_typed HO456.out) (by decide)) BK453.out (by decide)).1 k_ hs_.symm).1.2) (fun hs_ => ((Kd.R_types (Kd.R_apart' (HO467.out) (Kd.R_typed HO456.out) (by decide)) BK453.out (by decide)).1 k_ hs_.symm).1.2)) (fun hn_ => (Kd.fresh' (Kd.R_lt (R_ HO456.out)) k_ hn_)), Or.elim hk_ (fun hs_ => Or.elim hs_ (fun hs_ => ((Kd.R_types (Kd.R_apart' (HO464.out) (Kd.R_typed HO456.out) (by decide)) BK453.out (by decide)).1 k_ hs_.symm).2) (fun hs_ => ((Kd.R_types (Kd.R_apart' (HO467.out) (Kd.R_typed HO456.out) (by decide)) BK453.out (by decide)).1 k_ hs_.symm).2)) (fun hn_ => (Kd.freshB (g := gb453) (o := .cells #[.slice Ao117 t454.length co117, .int .i64 t457, .string t458, .string t459, .string t460, .string t461, .slice Ao119 t462.length co119, .slice Ao120 t465.length co120, .bool t468] 35 (0, 0)) (blk_ BK453.out) k_ hn_))⟩)) (below_size (bel_ HB.out))); have n5_ := am_ (blk_below (g := gb453) (o := .cells #[.slice Ao117 t454.length co117, .int .i64 t457, .string t458, .string t459, .string t460, .string t461, .slice Ao119 t462.length co119, .slice Ao120 t465.length co120, .bool t468] 35 (0, 0)) (blk_ BK453.out) hb); have n6_ := am_ (below_step (bel_ HB.out) hb); clear HO456 HO464 HO467 BK453 HB; have HO456 := n0_; have HO464 := n1_; have HO467 := n2_; have HO475 := n3_; have HO478 := n4_; have BK453 := n5_; have HB := n6_; clear n0_ n1_ n2_ n3_ n4_ n5_ n6_; (try clear hb); (try clear hb2); (try clear hk); (try clear hi); (try clear ho0); (try clear ho1)) | ((with_reducible refine gate_dst (N := 5) rfl ?_); refine box_event ?hg (N := 5) ?hd (cs := #[.string (⟨#[]⟩ : ByteArray), .string (⟨#[]⟩ : ByteArray), .string (⟨#[]⟩ : ByteArray), .slice none 0 0, .slice none 0 0]) (t := 33) ?hr ?_; (case hd => rfl); (case hg => rfl); (case hr => first | (go_simp; done) | (go_simp; rfl)); intro gb480 hg w124 hbox hb; have n0_ := am_ (Kd.R_below (R_ HO456.out) hb); have n1_ := am_ (Kd.R_below (R_ HO464.out) hb); have n2_ := am_ (Kd.R_below (R_ HO467.out) hb); have n3_ := am_ (Kd.V_below (Kd.V_elderB (by (with_reducible repeat (first | apply Kd.V_alloc | apply Kd.V_drewN | apply Kd.V_drew)); exact HO475.out) gb480 (Nat.le_of_eq hg.symm)) hb); have n4_ := am_ (Kd.V_below (Kd.V_elderB (by (with_reducible repeat (first | apply Kd.V_alloc | apply Kd.V_drewN | apply Kd.V_drew)); exact HO478.out) gb480 (Nat.le_of_eq hg.symm)) hb); have n5_ := am_ (blk_below (g := gb453) (o := .cells #[.slice Ao117 t454.length co117, .int .i64 t457, .string t458, .string t459, .string t460, .string t461, .slice Ao119 t462.length co119, .slice Ao120 t465.length co120, .bool t468] 35 (0, 0)) (blk_ BK453.out) hb); have n6_ := am_ (below_step (bel_ HB.out) hb); have n7_ := am_ (hbox); have n8_ := am_ ((by rw [hg]; exact (below_size (bel_ HB.out)) : w.heap.size ≤ gb480)); have n9_ := am_ ((by rw [hg]; exact (below_size (bel_ HB.out)) : w.heap.size ≤ gb480)); have n10_ := am_ ((by rw [hg]; exact Nat.ne_of_lt (blk_lt (g := gb453) (o := .cells #[.slice Ao117 t454.length co117, .int .i64 t457, .string t458, .string t459, .string t460, .string t461, .slice Ao119 t462.length co119, .slice Ao120 t465.length co120, .bool t468] 35 (0, 0)) (blk_ BK453.out)) : gb453 ≠ gb480)); have n11_ := am_ ((by rw [hg]; exact Nat.ne_of_gt (blk_lt (g := gb453) (o := .cells #[.slice Ao117 t454.length co117, .int .i64 t457, .string t458, .string t459, .string t460, .string t461, .slice Ao119 t462.length co119, .slice Ao120 t465.length co120, .bool t468] 35 (0, 0)) (blk_ BK453.out)) : gb480 ≠ gb453)); clear HO456 HO464 HO467 HO475 HO478 BK453 HB; have HO456 := n0_; have HO464 := n1_; have HO467 := n2_; have HO475 := n3_; have HO478 := n4_; have BK453 := n5_; have HB := n6_; have BK480 := n7_; have GW480 := n8_; have GE480 := n9_; have NB453_480 := n10_; have NB480_453 := n11_; clear n0_ n1_ n2_ n3_ n4_ n5_ n6_ n7_ n8_ n9_ n10_ n11_ hb hbox hg; have hnb125 := NB480_453.out; have hnc125 := NB453_480.out; obtain ⟨hcz126_0, hcz126_1, hcz126_2, hcz126_3, hcz126_4, hfz126_0, hfz126_1, hfz126_2, hfz126_3, hfz126_4⟩ := blk5 BK480.out; obtain ⟨Ao127, co127, eo127⟩ := Kd.V_slice HO475.out; subst eo127; obtain ⟨Ao128, co128, eo128⟩ := Kd.V_slice HO478.out; subst eo128) | ((with_reducible refine gate_callee (f := 21) rfl ?_); refine goesL_ (some 28) rfl rfl Tryz.func21 kr_ rfl #[.agg #[.string t470, .string t471, .string t472, .slice Ao127 t473.length co127, .slice Ao128 t476.length co128], .agg #[.string (⟨#[]⟩ : ByteArray), .string (⟨#[]⟩ : ByteArray), .string (⟨#[]⟩ : ByteArray), .slice none 0 0, .slice none 0 0]] rfl rl_ ?_; (refine (tollref07_SameAsk.calls k t470 t471 t472 _ _ t473 _ _ t476 (⟨#[]⟩ : ByteArray) (⟨#[]⟩ : ByteArray) (⟨#[]⟩ : ByteArray) _ _ ([] : List (S59)) _ _ ([] : List (S59)) true _ ?side1 ?side2 ?side3 ?side4 ?side5 ?side6 ?side7 ?side8 A111.out).mono ?_); (case side1 => refine (Kd.V_reads' (e := 59) (base := w.heap.size) (ok := fun k_ => ((some k_ ≠ (.slice Ao117 t454.length co117 : Value).ownBlock ∧ k_ ≠ gb453) ∧ k_ ≠ gb480)) (n := t473.length) (c := co127) ?_).2.2; exact (by (with_reducible repeat (first | apply Kd.V_alloc | apply Kd.V_drewN | apply Kd.V_drew)); exact (Kd.V_mono (Kd.V_far (p := ⟨gb480, 4, none⟩) (Kd.V_far (p := ⟨gb480, 3, none⟩) (Kd.V_far (p := ⟨gb480, 2, none⟩) (Kd.V_far (p := ⟨gb480, 1, none⟩) (Kd.V_far (p := ⟨gb480, 0, none⟩) (Kd.V_mono HO475.out (fun k_ hk => (⟨hk, hk.2⟩ : _ ∧ k_ ≠ gb480))) (fun _ hk => hk.2) (.string t470)) (fun _ hk => hk.2) (.string t471)) (fun _ hk => hk.2) (.string t472)) (fun _ hk => hk.2) (.slice Ao127 t473.length co127)) (fun _ hk => hk.2) (.slice Ao128 t476.length co128)) (fun _ h_ => h_.1)))); (case side2 => exact (Kd.V_reads' HO475.out).2.1); (case side3 => refine (Kd.V_reads' (e := 59) (base := w.heap.size) (ok := fun k_ => ((some k_ ≠ (.slice Ao117 t454.length co117 : Value).ownBlock ∧ k_ ≠ gb453) ∧ k_ ≠ gb480)) (n := t476.length) (c := co128) ?_).2.2; exact (by (with_reducible repeat (first | apply Kd.V_alloc | apply Kd.V_drewN | apply Kd.V_drew)); exact (Kd.V_mono (Kd.V_far (p := ⟨gb480, 4, none⟩) (Kd.V_far (p := ⟨gb480, 3, none⟩) (Kd.V_far (p := ⟨gb480, 2, none⟩) (Kd.V_far (p := ⟨gb480, 1, none⟩) (Kd.V_far (p := ⟨gb480, 0, none⟩) (Kd.V_mono HO478.out (fun k_ hk => (⟨hk, hk.2⟩ : _ ∧ k_ ≠ gb480))) (fun _ hk => hk.2) (.string t470)) (fun _ hk => hk.2) (.string t471)) (fun _ hk => hk.2) (.string t472)) (fun _ hk => hk.2) (.slice Ao127 t473.length co127)) (fun _ hk => hk.2) (.slice Ao128 t476.length co128)) (fun _ h_ => h_.1)))); (case side4 => exact (Kd.V_reads' HO478.out).2.1); (case side5 => exact Kd.C_nil _ _); (case side6 => exact Nat.le_refl _); (case side7 => exact Kd.C_nil _ _); (case side8 => exact Nat.le_refl _); rintro e w129 ⟨rfl, hb⟩; refine ⟨_, rfl, ?_⟩; have n0_ := am_ (Kd.R_below (by (with_reducible repeat (first | apply Kd.R_alloc | apply Kd.R_drewN | apply Kd.R_drew)); exact (Kd.R_mono (Kd.R_far (p := ⟨gb480, 4, none⟩) (Kd.R_far (p := ⟨gb480, 3, none⟩) (Kd.R_far (p := ⟨gb480, 2, none⟩) (Kd.R_far (p := ⟨gb480, 1, none⟩) (Kd.R_far (p := ⟨gb480, 0, none⟩) (Kd.R_types HO456.out BK480.out (by decide)) (fun _ hk => hk.2) (.string t470)) (fun _ hk => hk.2) (.string t471)) (fun _ hk => hk.2) (.string t472)) (fun _ hk => hk.2) (.slice Ao127 t473.length co127)) (fun _ hk => hk.2) (.slice Ao128 t476.length co128)) (fun _ h_ => h_.1))) hb); have n1_ := am_ (Kd.R_below (by (with_reducible repeat (first | apply Kd.R_alloc | apply Kd.R_drewN | apply Kd.R_drew)); exact (Kd.R_mono (Kd.R_far (p := ⟨gb480, 4, none⟩) (Kd.R_far (p := ⟨gb480, 3, none⟩) (Kd.R_far (p := ⟨gb480, 2, none⟩) (Kd.R_far (p := ⟨gb480, 1, none⟩) (Kd.R_far (p := ⟨gb480, 0, none⟩) (Kd.R_types HO464.out BK480.out (by decide)) (fun _ hk => hk.2) (.string t470)) (fun _ hk => hk.2) (.string t471)) (fun _ hk => hk.2) (.string t472)) (fun _ hk => hk.2) (.slice Ao127 t473.length co127)) (fun _ hk => hk.2) (.slice Ao128 t476.length co128)) (fun _ h_ => h_.1))) hb); have n2_ := am_ (Kd.R_below (by (with_reducible repeat (first | apply Kd.R_alloc | apply Kd.R_drewN | apply Kd.R_drew)); exact (Kd.R_mono (Kd.R_far (p := ⟨gb480, 4, none⟩) (Kd.R_far (p := ⟨gb480, 3, none⟩) (Kd.R_far (p := ⟨gb480, 2, none⟩) (Kd.R_far (p := ⟨gb480, 1, none⟩) (Kd.R_far (p := ⟨gb480, 0, none⟩) (Kd.R_types HO467.out BK480.out (by decide)) (fun _ hk => hk.2) (.string t470)) (fun _ hk => hk.2) (.string t471)) (fun _ hk => hk.2) (.string t472)) (fun _ hk => hk.2) (.slice Ao127 t473.length co127)) (fun _ hk => hk.2) (.slice Ao128 t476.length co128)) (fun _ h_ => h_.1))) hb); have n3_ := am_ (Kd.V_below (by (with_reducible repeat (first | apply Kd.V_alloc | apply Kd.V_drewN | apply Kd.V_drew)); exact (Kd.V_mono (Kd.V_far (p := ⟨gb480, 4, none⟩) (Kd.V_far (p := ⟨gb480, 3, none⟩) (Kd.V_far (p := ⟨gb480, 2, none⟩) (Kd.V_far (p := ⟨gb480, 1, none⟩) (Kd.V_far (p := ⟨gb480, 0, none⟩) (Kd.V_mono HO475.out (fun k_ hk => (⟨hk, hk.2⟩ : _ ∧ k_ ≠ gb480))) (fun _ hk => hk.2) (.string t470)) (fun _ hk => hk.2) (.string t471)) (fun _ hk => hk.2) (.string t472)) (fun _ hk => hk.2) (.slice Ao127 t473.length co127)) (fun _ hk => hk.2) (.slice Ao128 t476.length co128)) (fun _ h_ => h_.1))) hb); have n4_ := am_ (Kd.V_below (by (with_reducible repeat (first | apply Kd.V_alloc | apply Kd.V_drewN | apply Kd.V_drew)); exact (Kd.V_mono (Kd.V_far (p := ⟨gb480, 4, none⟩) (Kd.V_far (p := ⟨gb480, 3, none⟩) (Kd.V_far (p := ⟨gb480, 2, none⟩) (Kd.V_far (p := ⟨gb480, 1, none⟩) (Kd.V_far (p := ⟨gb480, 0, none⟩) (Kd.V_mono HO478.out (fun k_ hk => (⟨hk, hk.2⟩ : _ ∧ k_ ≠ gb480))) (fun _ hk => hk.2) (.string t470)) (fun _ hk => hk.2) (.string t471)) (fun _ hk => hk.2) (.string t472)) (fun _ hk => hk.2) (.slice Ao127 t473.length co127)) (fun _ hk => hk.2) (.slice Ao128 t476.length co128)) (fun _ h_ => h_.1))) hb); have n5_ := am_ (blk_below (g := gb453) (o := .cells #[.slice Ao117 t454.length co117, .int .i64 t457, .string t458, .string t459, .string t460, .string t461, .slice Ao119 t462.length co119, .slice Ao120 t465.length co120, .bool t468] 35 (0, 0)) (by (with_reducible repeat (first | refine blk_drewN ?_ _ | refine blk_drew ?_ | refine blk_alloc ?_ _)); refine blk_far ?_ NB453_480.out _; (with_reducible repeat (first | refine blk_drewN ?_ _ | refine blk_drew ?_ | refine blk_alloc ?_ _)); refine blk_far ?_ NB453_480.out _; (with_reducible repeat (first | refine blk_drewN ?_ _ | refine blk_drew ?_ | refine blk_alloc ?_ _)); refine blk_far ?_ NB453_480.out _; (with_reducible repeat (first | refine blk_drewN ?_ _ | refine blk_drew ?_ | refine blk_alloc ?_ _)); refine blk_far ?_ NB453_480.out _; (with_reducible repeat (first | refine blk_drewN ?_ _ | refine blk_drew ?_ | refine blk_alloc ?_ _)); refine blk_far ?_ NB453_480.out _; (with_reducible repeat (first | refine blk_drewN ?_ _ | refine blk_drew ?_ | refine blk_alloc ?_ _)); exact BK453.out) hb); have n6_ := am_ (blk_below (g := gb480) (o := .cells #[.string t470, .string t471, .string t472, .slice Ao127 t473.length co127, .slice Ao128 t476.length co128] 33 (0, 0)) (by (with_reducible repeat (first | refine blk_drewN ?_ _ | refine blk_drew ?_ | refine blk_alloc ?_ _)); refine blk_put (cs := #[.string t470, .string t471, .string t472, .slice Ao127 t473.length co127, .slice none 0 0]) ?_ 4 _ rfl; (with_reducible repeat (first | refine blk_drewN ?_ _ | refine blk_drew ?_ | refine blk_alloc ?_ _)); refine blk_put (cs := #[.string t470, .string t471, .string t472, .slice none 0 0, .slice none 0 0]) ?_ 3 _ rfl; (with_reducible repeat (first | refine blk_drewN ?_ _ | refine blk_drew ?_ | refine blk_alloc ?_ _)); refine blk_put (cs := #[.string t470, .string t471, .string (⟨#[]⟩ : ByteArray), .slice none 0 0, .slice none 0 0]) ?_ 2 _ rfl; (with_reducible repeat (first | refine blk_drewN ?_ _ | refine blk_drew ?_ | refine blk_alloc ?_ _)); refine blk_put (cs := #[.string t470, .string (⟨#[]⟩ : ByteArray), .string (⟨#[]⟩ : ByteArray), .slice none 0 0, .slice none 0 0]) ?_ 1 _ rfl; (with_reducible repeat (first | refine blk_drewN ?_ _ | refine blk_drew ?_ | refine blk_alloc ?_ _)); refine blk_put (cs := #[.string (⟨#[]⟩ : ByteArray), .string (⟨#[]⟩ : ByteArray), .string (⟨#[]⟩ : ByteArray), .slice none 0 0, .slice none 0 0]) ?_ 0 _ rfl; (with_reducible repeat (first | refine blk_drewN ?_ _ | refine blk_drew ?_ | refine blk_alloc ?_ _)); exact BK480.out) hb); have n7_ := am_ (below_step (bel_ HB.out) hb); clear HO456 HO464 HO467 HO475 HO478 BK453 BK480 HB; have HO456 := n0_; have HO464 := n1_; have HO467 := n2_; have HO475 := n3_; have HO478 := n4_; have BK453 := n5_; have BK480 := n6_; have HB := n7_; clear n0_ n1_ n2_ n3_ n4_ n5_ n6_ n7_; (try clear hb); (try clear hb2); (try clear hk); (try clear hi)) | (go_at_call 14; (with_reducible refine (tolllaw07_awake.calls k  t482 _ (gm_ HGL.out (bel_ HB.out)) A113.out).mono ?_); rintro e w130 ⟨rfl, hb⟩; have n0_ := am_ (Kd.R_below (R_ HO456.out) hb); have n1_ := am_ (Kd.R_below (R_ HO464.out) hb); have n2_ := am_ (Kd.R_below (R_ HO467.out) hb); have n3_ := am_ (Kd.V_below (by (with_reducible repeat (first | apply Kd.V_alloc | apply Kd.V_drewN | apply Kd.V_drew)); exact HO475.out) hb); have n4_ := am_ (Kd.V_below (by (with_reducible repeat (first | apply Kd.V_alloc | apply Kd.V_drewN | apply Kd.V_drew)); exact HO478.out) hb); have n5_ := am_ (blk_below (g := gb453) (o := .cells #[.slice Ao117 t454.length co117, .int .i64 t457, .string t458, .string t459, .string t460, .string t461, .slice Ao119 t462.length co119, .slice Ao120 t465.length co120, .bool t468] 35 (0, 0)) (blk_ BK453.out) hb); have n6_ := am_ (blk_below (g := gb480) (o := .cells #[.string t470, .string t471, .string t472, .slice Ao127 t473.length co127, .slice Ao128 t476.length co128] 33 (0, 0)) (blk_ BK480.out) hb); have n7_ := am_ (below_step (bel_ HB.out) hb); clear HO456 HO464 HO467 HO475 HO478 BK453 BK480 HB; have HO456 := n0_; have HO464 := n1_; have HO467 := n2_; have HO475 := n3_; have HO478 := n4_; have BK453 := n5_; have BK480 := n6_; have HB := n7_; clear n0_ n1_ n2_ n3_ n4_ n5_ n6_ n7_; (try clear hb); (try clear hb2); (try clear hk); (try clear hi)))
   go_ret
   exact ⟨fi_, bel_ HB.out⟩
  ·replace c112 := Bool.eq_false_iff.mpr c112
   subst c112
   have H1 : (none) = some r := by rw [if_neg (show ¬ (false = true) by decide)] at H; exact H
   clear H
   have H := H1
   clear H1
   exact absurd H (by simp)

/-- THE ONE PURE STATEMENT of tolllaw07_FilterLeaves. -/
def tolllaw07_FilterLeaves.Pure : Prop := ∀ (l0_0 : List (S26)) (a0_1 : Int) (a0_2 : ByteArray) (a0_3 : ByteArray) (a0_4 : ByteArray) (a0_5 : ByteArray) (l0_6 : List (S59)) (l0_7 : List (S59)) (a0_8 : Bool) (a1 : ByteArray), ((l0_0.length ≤ maxLen ∧ l0_0.length * 96 ≤ 140737488351232 ∧ ∀ y ∈ l0_0, ((Lit.int .i64 y.f0).wf = true) ∧ (y.f1.size ≤ 140737488351232) ∧ (y.f2.size ≤ 140737488351232) ∧ (y.f3.size ≤ 140737488351232) ∧ ((Lit.int .i64 y.f4).wf = true) ∧ (y.f5.size ≤ 140737488351232) ∧ (True) ∧ ((Lit.int .i64 y.f7).wf = true)) ∧ (((Lit.int .i64 a0_1).wf = true) ∧ (a0_2.size ≤ 140737488351232)) ∧ ((a0_3.size ≤ 140737488351232) ∧ (a0_4.size ≤ 140737488351232) ∧ (a0_5.size ≤ 140737488351232) ∧ (l0_6.length ≤ maxLen ∧ l0_6.length * 32 ≤ 140737488351232 ∧ ∀ y ∈ l0_6, (y.f0.size ≤ 140737488351232) ∧ (y.f1.size ≤ 140737488351232)) ∧ (l0_7.length ≤ maxLen ∧ l0_7.length * 32 ≤ 140737488351232 ∧ ∀ y ∈ l0_7, (y.f0.size ≤ 140737488351232) ∧ (y.f1.size ≤ 140737488351232))) ∧ (True)) → (a1.size ≤ 140737488351232) → ∃ k, tolllaw07_FilterLeaves.f k l0_0 a0_1 a0_2 a0_3 a0_4 a0_5 l0_6 l0_7 a0_8 a1 = some true

end Go.Proofs.YtfdopmjgiakcdaaGreatDoor.P
