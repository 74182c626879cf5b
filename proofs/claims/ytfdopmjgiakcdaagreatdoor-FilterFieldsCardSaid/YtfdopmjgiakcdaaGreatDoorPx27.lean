-- written by wip/tool/hprint.py of this repo: the kit's print, with contracts by hand joined; Lean checks it.
import Derived.Test.YtfdopmjgiakcdaaGreatDoorPx0
import Derived.Test.YtfdopmjgiakcdaaGreatDoorPx8
import Derived.Test.YtfdopmjgiakcdaaGreatDoorPx10
import Derived.Test.YtfdopmjgiakcdaaGreatDoorPx11
import Derived.Test.YtfdopmjgiakcdaaGreatDoorPx13
import Derived.Test.YtfdopmjgiakcdaaGreatDoorPx18
import Derived.Test.YtfdopmjgiakcdaaGreatDoorPx26
namespace Go.Proofs.YtfdopmjgiakcdaaGreatDoor.P
open Go.RowKit Go.Proofs.YtfdopmjgiakcdaaGreatDoorW.PrintWords Go.Proofs.YtfdopmjgiakcdaaGreatDoorW.PrintLast Go.Proofs.YtfdopmjgiakcdaaGreatDoorW.PrintMore
attribute [local go_sem] max2_int min2_int max_two min_two max_three min_three max_four min_four   -- for this text's walks alone
set_option linter.unusedVariables false
set_option linter.unusedSimpArgs false

/-! ### tolllaw07_FilterFields_g2: function 6 -/
mutual
def tolllaw07_FilterFields_g2.l0 : Nat → Int → List (S26) → Int → ByteArray → ByteArray → ByteArray → ByteArray → List (S59) → List (S59) → Bool → ByteArray → ByteArray → ByteArray → List (S59) → List (S59) → Option (Bool)
 | 0, _, _, _, _, _, _, _, _, _, _, _, _, _, _, _ => none
 | k + 1, x5, x624000, x624001, x624002, x624003, x624004, x624005, x624006, x624007, x624008, x650000, x650001, x650002, x650003, x650004 => if x5 < (x624000.length : Int) then (if 0 ≤ x5 then (if ((rd_T26 x624000 x5).f0) > 3 then (tolllaw07_FilterFields_g2.l0 k (wrap64 (x5 + 1)) x624000 x624001 x624002 x624003 x624004 x624005 x624006 x624007 x624008 x650000 x650001 x650002 x650003 x650004) else (tolllaw07_FilterFields_g2.l1 k x5 true 0 x624000 x624001 x624002 x624003 x624004 x624005 x624006 x624007 x624008 x650000 x650001 x650002 x650003 x650004 ((rd_T26 x624000 x5).f0) ((rd_T26 x624000 x5).f1) ((rd_T26 x624000 x5).f2) ((rd_T26 x624000 x5).f3) ((rd_T26 x624000 x5).f4) ((rd_T26 x624000 x5).f5) ((rd_T26 x624000 x5).f6) ((rd_T26 x624000 x5).f7))) else (none)) else ((tolllaw07_awake.f k).bind fun t651 => (some t651))
def tolllaw07_FilterFields_g2.l1 : Nat → Int → Bool → Int → List (S26) → Int → ByteArray → ByteArray → ByteArray → ByteArray → List (S59) → List (S59) → Bool → ByteArray → ByteArray → ByteArray → List (S59) → List (S59) → Int → ByteArray → ByteArray → ByteArray → Int → ByteArray → Bool → Int → Option (Bool)
 | 0, _, _, _, _, _, _, _, _, _, _, _, _, _, _, _, _, _, _, _, _, _, _, _, _, _ => none
 | k + 1, x5, x7, x8, x624000, x624001, x624002, x624003, x624004, x624005, x624006, x624007, x624008, x650000, x650001, x650002, x650003, x650004, x654000, x654001, x654002, x654003, x654004, x654005, x654006, x654007 => if x8 < (x624000.length : Int) then (if x7 = true then (if x8 = x5 then (tolllaw07_FilterFields_g2.l1 k x5 true (wrap64 (x8 + 1)) x624000 x624001 x624002 x624003 x624004 x624005 x624006 x624007 x624008 x650000 x650001 x650002 x650003 x650004 x654000 x654001 x654002 x654003 x654004 x654005 x654006 x654007) else (if 0 ≤ x8 then (if ((rd_T26 x624000 x8).f0) > 3 then (tolllaw07_FilterFields_g2.l1 k x5 true (wrap64 (x8 + 1)) x624000 x624001 x624002 x624003 x624004 x624005 x624006 x624007 x624008 x650000 x650001 x650002 x650003 x650004 x654000 x654001 x654002 x654003 x654004 x654005 x654006 x654007) else ((tollref05_Same.f k ((rd_T26 x624000 x8).f1) x654001).bind fun t656 => (tolllaw07_FilterFields_g2.l1 k x5 (!t656) (wrap64 (x8 + 1)) x624000 x624001 x624002 x624003 x624004 x624005 x624006 x624007 x624008 x650000 x650001 x650002 x650003 x650004 x654000 x654001 x654002 x654003 x654004 x654005 x654006 x654007))) else (none))) else (tolllaw07_FilterFields_g2.l1 k x5 false (wrap64 (x8 + 1)) x624000 x624001 x624002 x624003 x624004 x624005 x624006 x624007 x624008 x650000 x650001 x650002 x650003 x650004 x654000 x654001 x654002 x654003 x654004 x654005 x654006 x654007)) else ((tollref05_All.f k x650004 x654001).bind fun t657 => ((tollref05_All.f k x624007 x654001).bind fun t660 => (if x7 = true then (if x654000 = 1 then ((tollref01_Same.f k t657 (([x654002] : List ByteArray))).bind fun t666 => (tolllaw07_FilterFields_g2.j2 k x5 t657 t660 (!t666) x624000 x624001 x624002 x624003 x624004 x624005 x624006 x624007 x624008 x650000 x650001 x650002 x650003 x650004 x654000 x654001 x654002 x654003 x654004 x654005 x654006 x654007)) else (tolllaw07_FilterFields_g2.j2 k x5 t657 t660 false x624000 x624001 x624002 x624003 x624004 x624005 x624006 x624007 x624008 x650000 x650001 x650002 x650003 x650004 x654000 x654001 x654002 x654003 x654004 x654005 x654006 x654007)) else (tolllaw07_FilterFields_g2.l0 k (wrap64 (x5 + 1)) x624000 x624001 x624002 x624003 x624004 x624005 x624006 x624007 x624008 x650000 x650001 x650002 x650003 x650004))))
def tolllaw07_FilterFields_g2.j2 : Nat → Int → List ByteArray → List ByteArray → Bool → List (S26) → Int → ByteArray → ByteArray → ByteArray → ByteArray → List (S59) → List (S59) → Bool → ByteArray → ByteArray → ByteArray → List (S59) → List (S59) → Int → ByteArray → ByteArray → ByteArray → Int → ByteArray → Bool → Int → Option (Bool)
 | 0, _, _, _, _, _, _, _, _, _, _, _, _, _, _, _, _, _, _, _, _, _, _, _, _, _, _ => none
 | k + 1, x5, x9, x10, x89, x624000, x624001, x624002, x624003, x624004, x624005, x624006, x624007, x624008, x650000, x650001, x650002, x650003, x650004, x654000, x654001, x654002, x654003, x654004, x654005, x654006, x654007 => if x89 = true then (none) else (if x654000 = 3 then (tolllaw07_FilterFields_g2.j3 k x5 x9 x10 (decide ((x9.length : Int) > 0)) x624000 x624001 x624002 x624003 x624004 x624005 x624006 x624007 x624008 x650000 x650001 x650002 x650003 x650004 x654000 x654001 x654002 x654003 x654004 x654005 x654006 x654007) else (tolllaw07_FilterFields_g2.j3 k x5 x9 x10 false x624000 x624001 x624002 x624003 x624004 x624005 x624006 x624007 x624008 x650000 x650001 x650002 x650003 x650004 x654000 x654001 x654002 x654003 x654004 x654005 x654006 x654007))
def tolllaw07_FilterFields_g2.j3 : Nat → Int → List ByteArray → List ByteArray → Bool → List (S26) → Int → ByteArray → ByteArray → ByteArray → ByteArray → List (S59) → List (S59) → Bool → ByteArray → ByteArray → ByteArray → List (S59) → List (S59) → Int → ByteArray → ByteArray → ByteArray → Int → ByteArray → Bool → Int → Option (Bool)
 | 0, _, _, _, _, _, _, _, _, _, _, _, _, _, _, _, _, _, _, _, _, _, _, _, _, _, _ => none
 | k + 1, x5, x9, x10, x101, x624000, x624001, x624002, x624003, x624004, x624005, x624006, x624007, x624008, x650000, x650001, x650002, x650003, x650004, x654000, x654001, x654002, x654003, x654004, x654005, x654006, x654007 => if x101 = true then (none) else (if x654000 = 2 then ((some (([] : List ByteArray) : List ByteArray)).bind fun y667 => (if y667.length + x10.length < 8796093022208 then ((some (y667 ++ x10 : List ByteArray)).bind fun y670 => ((some (([x654002] : List ByteArray) : List ByteArray)).bind fun y673 => (if y670.length + y673.length < 8796093022208 then ((tollref01_Same.f k x9 (y670 ++ y673)).bind fun t679 => (if t679 = true then (tolllaw07_FilterFields_g2.l0 k (wrap64 (x5 + 1)) x624000 x624001 x624002 x624003 x624004 x624005 x624006 x624007 x624008 x650000 x650001 x650002 x650003 x650004) else (none))) else (none)))) else (none))) else (tolllaw07_FilterFields_g2.l0 k (wrap64 (x5 + 1)) x624000 x624001 x624002 x624003 x624004 x624005 x624006 x624007 x624008 x650000 x650001 x650002 x650003 x650004))
end
def tolllaw07_FilterFields_g2.f (k : Nat) (l0_0 : List (S26)) (a0_1 : Int) (a0_2 : ByteArray) (a0_3 : ByteArray) (a0_4 : ByteArray) (a0_5 : ByteArray) (l0_6 : List (S59)) (l0_7 : List (S59)) (a0_8 : Bool) : Option (Bool) := (tolllaw07_cut.f k l0_0 a0_1 a0_2 a0_3 a0_4 a0_5 l0_6 l0_7 a0_8).bind fun bt624 => ((filter_Do.f k bt624.1 bt624.2.1 bt624.2.2.1 bt624.2.2.2.1 bt624.2.2.2.2.1 bt624.2.2.2.2.2.1 bt624.2.2.2.2.2.2.1 bt624.2.2.2.2.2.2.2.1).bind fun bt639 => (if bt639.2.2.2.2.2 = 0 then (tolllaw07_FilterFields_g2.l0 k 0 bt624.1 bt624.2.1 bt624.2.2.1 bt624.2.2.2.1 bt624.2.2.2.2.1 bt624.2.2.2.2.2.1 bt624.2.2.2.2.2.2.1 bt624.2.2.2.2.2.2.2.1 bt624.2.2.2.2.2.2.2.2 bt639.1 bt639.2.1 bt639.2.2.1 bt639.2.2.2.1 bt639.2.2.2.2.1) else (none)))
theorem tolllaw07_FilterFields_g2.mono_l : ∀ k, (∀ y0 y1 y2 y3 y4 y5 y6 y7 y8 y9 y10 y11 y12 y13 y14, LeO (tolllaw07_FilterFields_g2.l0 k y0 y1 y2 y3 y4 y5 y6 y7 y8 y9 y10 y11 y12 y13 y14) (tolllaw07_FilterFields_g2.l0 (k + 1) y0 y1 y2 y3 y4 y5 y6 y7 y8 y9 y10 y11 y12 y13 y14)) ∧ (∀ y0 y1 y2 y3 y4 y5 y6 y7 y8 y9 y10 y11 y12 y13 y14 y15 y16 y17 y18 y19 y20 y21 y22 y23 y24, LeO (tolllaw07_FilterFields_g2.l1 k y0 y1 y2 y3 y4 y5 y6 y7 y8 y9 y10 y11 y12 y13 y14 y15 y16 y17 y18 y19 y20 y21 y22 y23 y24) (tolllaw07_FilterFields_g2.l1 (k + 1) y0 y1 y2 y3 y4 y5 y6 y7 y8 y9 y10 y11 y12 y13 y14 y15 y16 y17 y18 y19 y20 y21 y22 y23 y24)) ∧ (∀ y0 y1 y2 y3 y4 y5 y6 y7 y8 y9 y10 y11 y12 y13 y14 y15 y16 y17 y18 y19 y20 y21 y22 y23 y24 y25, LeO (tolllaw07_FilterFields_g2.j2 k y0 y1 y2 y3 y4 y5 y6 y7 y8 y9 y10 y11 y12 y13 y14 y15 y16 y17 y18 y19 y20 y21 y22 y23 y24 y25) (tolllaw07_FilterFields_g2.j2 (k + 1) y0 y1 y2 y3 y4 y5 y6 y7 y8 y9 y10 y11 y12 y13 y14 y15 y16 y17 y18 y19 y20 y21 y22 y23 y24 y25)) ∧ (∀ y0 y1 y2 y3 y4 y5 y6 y7 y8 y9 y10 y11 y12 y13 y14 y15 y16 y17 y18 y19 y20 y21 y22 y23 y24 y25, LeO (tolllaw07_FilterFields_g2.j3 k y0 y1 y2 y3 y4 y5 y6 y7 y8 y9 y10 y11 y12 y13 y14 y15 y16 y17 y18 y19 y20 y21 y22 y23 y24 y25) (tolllaw07_FilterFields_g2.j3 (k + 1) y0 y1 y2 y3 y4 y5 y6 y7 y8 y9 y10 y11 y12 y13 y14 y15 y16 y17 y18 y19 y20 y21 y22 y23 y24 y25))
 | 0 => ⟨fun _ _ _ _ _ _ _ _ _ _ _ _ _ _ _ r h => by simp [tolllaw07_FilterFields_g2.l0] at h, fun _ _ _ _ _ _ _ _ _ _ _ _ _ _ _ _ _ _ _ _ _ _ _ _ _ r h => by simp [tolllaw07_FilterFields_g2.l1] at h, fun _ _ _ _ _ _ _ _ _ _ _ _ _ _ _ _ _ _ _ _ _ _ _ _ _ _ r h => by simp [tolllaw07_FilterFields_g2.j2] at h, fun _ _ _ _ _ _ _ _ _ _ _ _ _ _ _ _ _ _ _ _ _ _ _ _ _ _ r h => by simp [tolllaw07_FilterFields_g2.j3] at h⟩
 | k + 1 => by
  obtain ⟨ih0, ih1, ih2, ih3⟩ := tolllaw07_FilterFields_g2.mono_l k
  refine ⟨?_, ?_, ?_, ?_⟩
  ·intro y0 y1 y2 y3 y4 y5 y6 y7 y8 y9 y10 y11 y12 y13 y14
   unfold tolllaw07_FilterFields_g2.l0
   repeat' first
   | (with_reducible exact ih0 _ _ _ _ _ _ _ _ _ _ _ _ _ _ _)
   | (with_reducible exact ih1 _ _ _ _ _ _ _ _ _ _ _ _ _ _ _ _ _ _ _ _ _ _ _ _ _)
   | (with_reducible exact ih2 _ _ _ _ _ _ _ _ _ _ _ _ _ _ _ _ _ _ _ _ _ _ _ _ _ _)
   | (with_reducible exact ih3 _ _ _ _ _ _ _ _ _ _ _ _ _ _ _ _ _ _ _ _ _ _ _ _ _ _)
   | (with_reducible exact filter_Do.mono _ _ _ _ _ _ _ _ _)
   | (with_reducible exact tolllaw07_awake.mono _)
   | (with_reducible exact tolllaw07_cut.mono _ _ _ _ _ _ _ _ _ _)
   | (with_reducible exact tollref01_Same.mono _ _ _)
   | (with_reducible exact tollref05_All.mono _ _ _)
   | (with_reducible exact tollref05_Same.mono _ _ _)
   | (with_reducible exact LeO.refl _)
   | (with_reducible exact LeO.none _)
   | (with_reducible refine LeO.ite ?_ ?_)
   | (with_reducible refine LeO.bind ?_ (fun _ => ?_))
   | exact ih0 _ _ _ _ _ _ _ _ _ _ _ _ _ _ _
   | exact ih1 _ _ _ _ _ _ _ _ _ _ _ _ _ _ _ _ _ _ _ _ _ _ _ _ _
   | exact ih2 _ _ _ _ _ _ _ _ _ _ _ _ _ _ _ _ _ _ _ _ _ _ _ _ _ _
   | exact ih3 _ _ _ _ _ _ _ _ _ _ _ _ _ _ _ _ _ _ _ _ _ _ _ _ _ _
   | exact filter_Do.mono _ _ _ _ _ _ _ _ _
   | exact tolllaw07_awake.mono _
   | exact tolllaw07_cut.mono _ _ _ _ _ _ _ _ _ _
   | exact tollref01_Same.mono _ _ _
   | exact tollref05_All.mono _ _ _
   | exact tollref05_Same.mono _ _ _
   | exact LeO.none _
   | refine LeO.ite ?_ ?_
   | refine LeO.bind ?_ (fun _ => ?_)
  ·intro y0 y1 y2 y3 y4 y5 y6 y7 y8 y9 y10 y11 y12 y13 y14 y15 y16 y17 y18 y19 y20 y21 y22 y23 y24
   unfold tolllaw07_FilterFields_g2.l1
   repeat' first
   | (with_reducible exact ih0 _ _ _ _ _ _ _ _ _ _ _ _ _ _ _)
   | (with_reducible exact ih1 _ _ _ _ _ _ _ _ _ _ _ _ _ _ _ _ _ _ _ _ _ _ _ _ _)
   | (with_reducible exact ih2 _ _ _ _ _ _ _ _ _ _ _ _ _ _ _ _ _ _ _ _ _ _ _ _ _ _)
   | (with_reducible exact ih3 _ _ _ _ _ _ _ _ _ _ _ _ _ _ _ _ _ _ _ _ _ _ _ _ _ _)
   | (with_reducible exact filter_Do.mono _ _ _ _ _ _ _ _ _)
   | (with_reducible exact tolllaw07_awake.mono _)
   | (with_reducible exact tolllaw07_cut.mono _ _ _ _ _ _ _ _ _ _)
   | (with_reducible exact tollref01_Same.mono _ _ _)
   | (with_reducible exact tollref05_All.mono _ _ _)
   | (with_reducible exact tollref05_Same.mono _ _ _)
   | (with_reducible exact LeO.refl _)
   | (with_reducible exact LeO.none _)
   | (with_reducible refine LeO.ite ?_ ?_)
   | (with_reducible refine LeO.bind ?_ (fun _ => ?_))
   | exact ih0 _ _ _ _ _ _ _ _ _ _ _ _ _ _ _
   | exact ih1 _ _ _ _ _ _ _ _ _ _ _ _ _ _ _ _ _ _ _ _ _ _ _ _ _
   | exact ih2 _ _ _ _ _ _ _ _ _ _ _ _ _ _ _ _ _ _ _ _ _ _ _ _ _ _
   | exact ih3 _ _ _ _ _ _ _ _ _ _ _ _ _ _ _ _ _ _ _ _ _ _ _ _ _ _
   | exact filter_Do.mono _ _ _ _ _ _ _ _ _
   | exact tolllaw07_awake.mono _
   | exact tolllaw07_cut.mono _ _ _ _ _ _ _ _ _ _
   | exact tollref01_Same.mono _ _ _
   | exact tollref05_All.mono _ _ _
   | exact tollref05_Same.mono _ _ _
   | exact LeO.none _
   | refine LeO.ite ?_ ?_
   | refine LeO.bind ?_ (fun _ => ?_)
  ·intro y0 y1 y2 y3 y4 y5 y6 y7 y8 y9 y10 y11 y12 y13 y14 y15 y16 y17 y18 y19 y20 y21 y22 y23 y24 y25
   unfold tolllaw07_FilterFields_g2.j2
   repeat' first
   | (with_reducible exact ih0 _ _ _ _ _ _ _ _ _ _ _ _ _ _ _)
   | (with_reducible exact ih1 _ _ _ _ _ _ _ _ _ _ _ _ _ _ _ _ _ _ _ _ _ _ _ _ _)
   | (with_reducible exact ih2 _ _ _ _ _ _ _ _ _ _ _ _ _ _ _ _ _ _ _ _ _ _ _ _ _ _)
   | (with_reducible exact ih3 _ _ _ _ _ _ _ _ _ _ _ _ _ _ _ _ _ _ _ _ _ _ _ _ _ _)
   | (with_reducible exact filter_Do.mono _ _ _ _ _ _ _ _ _)
   | (with_reducible exact tolllaw07_awake.mono _)
   | (with_reducible exact tolllaw07_cut.mono _ _ _ _ _ _ _ _ _ _)
   | (with_reducible exact tollref01_Same.mono _ _ _)
   | (with_reducible exact tollref05_All.mono _ _ _)
   | (with_reducible exact tollref05_Same.mono _ _ _)
   | (with_reducible exact LeO.refl _)
   | (with_reducible exact LeO.none _)
   | (with_reducible refine LeO.ite ?_ ?_)
   | (with_reducible refine LeO.bind ?_ (fun _ => ?_))
   | exact ih0 _ _ _ _ _ _ _ _ _ _ _ _ _ _ _
   | exact ih1 _ _ _ _ _ _ _ _ _ _ _ _ _ _ _ _ _ _ _ _ _ _ _ _ _
   | exact ih2 _ _ _ _ _ _ _ _ _ _ _ _ _ _ _ _ _ _ _ _ _ _ _ _ _ _
   | exact ih3 _ _ _ _ _ _ _ _ _ _ _ _ _ _ _ _ _ _ _ _ _ _ _ _ _ _
   | exact filter_Do.mono _ _ _ _ _ _ _ _ _
   | exact tolllaw07_awake.mono _
   | exact tolllaw07_cut.mono _ _ _ _ _ _ _ _ _ _
   | exact tollref01_Same.mono _ _ _
   | exact tollref05_All.mono _ _ _
   | exact tollref05_Same.mono _ _ _
   | exact LeO.none _
   | refine LeO.ite ?_ ?_
   | refine LeO.bind ?_ (fun _ => ?_)
  ·intro y0 y1 y2 y3 y4 y5 y6 y7 y8 y9 y10 y11 y12 y13 y14 y15 y16 y17 y18 y19 y20 y21 y22 y23 y24 y25
   unfold tolllaw07_FilterFields_g2.j3
   repeat' first
   | (with_reducible exact ih0 _ _ _ _ _ _ _ _ _ _ _ _ _ _ _)
   | (with_reducible exact ih1 _ _ _ _ _ _ _ _ _ _ _ _ _ _ _ _ _ _ _ _ _ _ _ _ _)
   | (with_reducible exact ih2 _ _ _ _ _ _ _ _ _ _ _ _ _ _ _ _ _ _ _ _ _ _ _ _ _ _)
   | (with_reducible exact ih3 _ _ _ _ _ _ _ _ _ _ _ _ _ _ _ _ _ _ _ _ _ _ _ _ _ _)
   | (with_reducible exact filter_Do.mono _ _ _ _ _ _ _ _ _)
   | (with_reducible exact tolllaw07_awake.mono _)
   | (with_reducible exact tolllaw07_cut.mono _ _ _ _ _ _ _ _ _ _)
   | (with_reducible exact tollref01_Same.mono _ _ _)
   | (with_reducible exact tollref05_All.mono _ _ _)
   | (with_reducible exact tollref05_Same.mono _ _ _)
   | (with_reducible exact LeO.refl _)
   | (with_reducible exact LeO.none _)
   | (with_reducible refine LeO.ite ?_ ?_)
   | (with_reducible refine LeO.bind ?_ (fun _ => ?_))
   | exact ih0 _ _ _ _ _ _ _ _ _ _ _ _ _ _ _
   | exact ih1 _ _ _ _ _ _ _ _ _ _ _ _ _ _ _ _ _ _ _ _ _ _ _ _ _
   | exact ih2 _ _ _ _ _ _ _ _ _ _ _ _ _ _ _ _ _ _ _ _ _ _ _ _ _ _
   | exact ih3 _ _ _ _ _ _ _ _ _ _ _ _ _ _ _ _ _ _ _ _ _ _ _ _ _ _
   | exact filter_Do.mono _ _ _ _ _ _ _ _ _
   | exact tolllaw07_awake.mono _
   | exact tolllaw07_cut.mono _ _ _ _ _ _ _ _ _ _
   | exact tollref01_Same.mono _ _ _
   | exact tollref05_All.mono _ _ _
   | exact tollref05_Same.mono _ _ _
   | exact LeO.none _
   | refine LeO.ite ?_ ?_
   | refine LeO.bind ?_ (fun _ => ?_)
theorem tolllaw07_FilterFields_g2.mono : ∀ a0 a1 a2 a3 a4 a5 a6 a7 a8 k, LeO (tolllaw07_FilterFields_g2.f k a0 a1 a2 a3 a4 a5 a6 a7 a8) (tolllaw07_FilterFields_g2.f (k + 1) a0 a1 a2 a3 a4 a5 a6 a7 a8) := by
 intro a0 a1 a2 a3 a4 a5 a6 a7 a8 k
 obtain ⟨ih0, ih1, ih2, ih3⟩ := tolllaw07_FilterFields_g2.mono_l k
 unfold tolllaw07_FilterFields_g2.f
 repeat' first
   | (with_reducible exact ih0 _ _ _ _ _ _ _ _ _ _ _ _ _ _ _)
   | (with_reducible exact ih1 _ _ _ _ _ _ _ _ _ _ _ _ _ _ _ _ _ _ _ _ _ _ _ _ _)
   | (with_reducible exact ih2 _ _ _ _ _ _ _ _ _ _ _ _ _ _ _ _ _ _ _ _ _ _ _ _ _ _)
   | (with_reducible exact ih3 _ _ _ _ _ _ _ _ _ _ _ _ _ _ _ _ _ _ _ _ _ _ _ _ _ _)
   | (with_reducible exact filter_Do.mono _ _ _ _ _ _ _ _ _)
   | (with_reducible exact tolllaw07_awake.mono _)
   | (with_reducible exact tolllaw07_cut.mono _ _ _ _ _ _ _ _ _ _)
   | (with_reducible exact tollref01_Same.mono _ _ _)
   | (with_reducible exact tollref05_All.mono _ _ _)
   | (with_reducible exact tollref05_Same.mono _ _ _)
   | (with_reducible exact LeO.refl _)
   | (with_reducible exact LeO.none _)
   | (with_reducible refine LeO.ite ?_ ?_)
   | (with_reducible refine LeO.bind ?_ (fun _ => ?_))
   | exact ih0 _ _ _ _ _ _ _ _ _ _ _ _ _ _ _
   | exact ih1 _ _ _ _ _ _ _ _ _ _ _ _ _ _ _ _ _ _ _ _ _ _ _ _ _
   | exact ih2 _ _ _ _ _ _ _ _ _ _ _ _ _ _ _ _ _ _ _ _ _ _ _ _ _ _
   | exact ih3 _ _ _ _ _ _ _ _ _ _ _ _ _ _ _ _ _ _ _ _ _ _ _ _ _ _
   | exact filter_Do.mono _ _ _ _ _ _ _ _ _
   | exact tolllaw07_awake.mono _
   | exact tolllaw07_cut.mono _ _ _ _ _ _ _ _ _ _
   | exact tollref01_Same.mono _ _ _
   | exact tollref05_All.mono _ _ _
   | exact tollref05_Same.mono _ _ _
   | exact LeO.none _
   | refine LeO.ite ?_ ?_
   | refine LeO.bind ?_ (fun _ => ?_)
def tolllaw07_FilterFields_g2.T14 : Bool × List (List Nat × List Nat) := (true, [([], []), ([0], [0]), ([1], [1]), ([1], [1]), ([2, 3, 1], [1, 2, 3]), ([4, 1, 1], [1, 4]), ([5], [5]), ([6, 5], [5, 6]), ([5], [5]), ([7, 8, 5], [5, 7, 8]), ([9, 5], [5, 9]), ([10, 5], [5, 10]), ([11, 5], [5, 11]), ([5, 12, 1], [1, 5, 12]), ([13, 5, 1], [1, 13]), ([14], [14]), ([15, 14], [14, 15]), ([14], [14]), ([16, 17, 14], [14, 16, 17]), ([18, 14], [14, 18]), ([19, 14], [14, 19]), ([14], [14]), ([21, 14], [14, 21]), ([20, 22, 14, 14], [14, 20, 22]), ([23, 14], [14, 23]), ([14, 24, 1], [1, 14, 24]), ([1, 25], [1, 25]), ([26, 23, 0, 1, 2, 3, 4, 5, 6, 7, 8, 9, 10, 11, 12, 13, 14, 15, 16, 17, 18, 19, 20, 21, 22, 23, 24, 25, 26], [0, 26])])
def tolllaw07_FilterFields_g2.B14 : List Nat := [0, 1, 3, 3, 15, 31, 63, 127, 63, 511, 1023, 2047, 4095, 8191, 16383, 32767, 65535, 32767, 262143, 524287, 1048575, 32767, 2129919, 8388607, 16777215, 33554431, 67108863, 134217727]
theorem tolllaw07_FilterFields_g2.tab14 : rtab .any (opsOf Tryz.f6 14) = tolllaw07_FilterFields_g2.T14 := by kernel_rfl
theorem tolllaw07_FilterFields_g2.bits14 : waitsOk tolllaw07_FilterFields_g2.T14.2 tolllaw07_FilterFields_g2.B14 = true := by kernel_rfl
def tolllaw07_FilterFields_g2.T15 : Bool × List (List Nat × List Nat) := (true, [([], []), ([0], [0]), ([], []), ([2], [2]), ([1, 3], [1, 3]), ([], []), ([5], [5]), ([6], [6]), ([], []), ([8], [8]), ([7, 9, 4], [7, 9]), ([4, 10, 0, 1, 2, 3, 4], [4]), ([10, 11, 0, 1, 2, 3, 4, 5, 6, 7, 8, 9, 10, 11], [10])])
def tolllaw07_FilterFields_g2.B15 : List Nat := [0, 1, 0, 4, 15, 0, 32, 96, 0, 256, 1023, 2047, 4095]
theorem tolllaw07_FilterFields_g2.tab15 : rtab .any (opsOf Tryz.f6 15) = tolllaw07_FilterFields_g2.T15 := by kernel_rfl
theorem tolllaw07_FilterFields_g2.bits15 : waitsOk tolllaw07_FilterFields_g2.T15.2 tolllaw07_FilterFields_g2.B15 = true := by kernel_rfl
def tolllaw07_FilterFields_g2.T21 : Bool × List (List Nat × List Nat) := (true, [([], []), ([0], [0]), ([1], [1]), ([2], [2]), ([3], [3]), ([3], [3]), ([3], [3]), ([5, 6, 3, 3], [3, 5, 6]), ([3], [3]), ([8, 3], [3, 8]), ([9, 3], [3, 9]), ([7, 10, 7, 3], [3, 7, 10]), ([4, 11, 11, 3], [3, 4, 11]), ([12, 3], [3, 12]), ([3, 13], [3, 13]), ([14, 12], [14])])
def tolllaw07_FilterFields_g2.B21 : List Nat := [0, 1, 3, 7, 15, 15, 15, 111, 15, 271, 783, 2031, 4095, 8191, 16383, 32767]
theorem tolllaw07_FilterFields_g2.tab21 : rtab .any (opsOf Tryz.f6 21) = tolllaw07_FilterFields_g2.T21 := by kernel_rfl
theorem tolllaw07_FilterFields_g2.bits21 : waitsOk tolllaw07_FilterFields_g2.T21.2 tolllaw07_FilterFields_g2.B21 = true := by kernel_rfl
set_option maxHeartbeats 6000000 in
set_option maxRecDepth 100000 in
theorem tolllaw07_FilterFields_g2.calls (k : Nat) (qf : Option Addr) (c0_0 : Nat) (l0_0 : List (S26)) (a0_1 : Int) (a0_2 : ByteArray) (a0_3 : ByteArray) (a0_4 : ByteArray) (a0_5 : ByteArray) (p8 : Option Addr) (c0_6 : Nat) (l0_6 : List (S59)) (p5 : Option Addr) (c0_7 : Nat) (l0_7 : List (S59)) (a0_8 : Bool) (r : Bool) (w : World) (hr0_0 : Kd.C k26 w qf l0_0.length l0_0) (hc0_0 : l0_0.length ≤ c0_0) (hr0_6 : Kd.C k59 w p8 l0_6.length l0_6) (hc0_6 : l0_6.length ≤ c0_6) (hr0_7 : Kd.C k59 w p5 l0_7.length l0_7) (hc0_7 : l0_7.length ≤ c0_7) (hG : MaxL w) (h : tolllaw07_FilterFields_g2.f k l0_0 a0_1 a0_2 a0_3 a0_4 a0_5 l0_6 l0_7 a0_8 = some r) :
  Calls Tryz.prog 6 #[.agg #[.slice qf l0_0.length c0_0, .int .i64 a0_1, .string a0_2, .string a0_3, .string a0_4, .string a0_5, .slice p8 l0_6.length c0_6, .slice p5 l0_7.length c0_7, .bool a0_8]] w fun e w' => e = .returned (.bool r) ∧ Below w.heap.size w w' := by
 have HGL := am_ hG;clear hG;have hu35 := Tryz.underlying35;have hu30 := Tryz.underlying30;have hu33 := Tryz.underlying33;have hu26 := Tryz.underlying26;have qs := Aside0.mk hr0_0;have qt := Aside0.mk hc0_0;clear hr0_0 hc0_0;have qu := Aside0.mk hr0_6;have qv := Aside0.mk hc0_6;clear hr0_6 hc0_6;have qw := Aside0.mk hr0_7;have qx := Aside0.mk hc0_7;clear hr0_7 hc0_7;have HB := am_ (Below.refl w.heap.size w);have H : ((tolllaw07_cut.f k l0_0 a0_1 a0_2 a0_3 a0_4 a0_5 l0_6 l0_7 a0_8).bind fun bt624 => ((filter_Do.f k bt624.1 bt624.2.1 bt624.2.2.1 bt624.2.2.2.1 bt624.2.2.2.2.1 bt624.2.2.2.2.2.1 bt624.2.2.2.2.2.2.1 bt624.2.2.2.2.2.2.2.1).bind fun bt639 => (if bt639.2.2.2.2.2 = 0 then (tolllaw07_FilterFields_g2.l0 k 0 bt624.1 bt624.2.1 bt624.2.2.1 bt624.2.2.2.1 bt624.2.2.2.2.1 bt624.2.2.2.2.2.1 bt624.2.2.2.2.2.2.1 bt624.2.2.2.2.2.2.2.1 bt624.2.2.2.2.2.2.2.2 bt639.1 bt639.2.1 bt639.2.2.1 bt639.2.2.2.1 bt639.2.2.2.2.1) else (none)))) = some r := h;clear h;replace H := Option.bind_eq_some_iff.mp H;obtain ⟨⟨pa, ps, pu, pv, pz, pA, pn, pm, pD⟩, A20, H⟩ := H;replace H : ((filter_Do.f k pa ps pu pv pz pA pn pm).bind fun bt639 => (if bt639.2.2.2.2.2 = 0 then (tolllaw07_FilterFields_g2.l0 k 0 pa ps pu pv pz pA pn pm pD bt639.1 bt639.2.1 bt639.2.2.1 bt639.2.2.2.1 bt639.2.2.2.2.1) else (none))) = some r := H;have A2 := Aside0.mk A20;clear A20;replace H := Option.bind_eq_some_iff.mp H;obtain ⟨⟨pC, pE, pF, pt, pq, qg⟩, A30, H⟩ := H;replace H : (if qg = 0 then (tolllaw07_FilterFields_g2.l0 k 0 pa ps pu pv pz pA pn pm pD pC pE pF pt pq) else (none)) = some r := H;have A3 := Aside0.mk A30;clear A30;by_cases c4 : qg = 0
 ·rw [if_pos c4] at H
  have c4b0 : (qg == 0) = true := beq_iff_eq.mpr c4;have c4b1 : (qg != 0) = false := bne_eq_false_iff_eq.mpr c4;clear c4;have H' := Aside0.mk H;clear H;go_enter Tryz.func6, Tryz.ntmps6
  go_wp2_with (first | ((with_reducible refine gate_dst (N := 1) rfl ?_); (try (refine gate_guard (by rfl) ?_; dsimp only)); refine box_event ?hg (N := 1) ?hd (cs := #[.slice qf l0_0.length c0_0, .int .i64 a0_1, .string a0_2, .string a0_3, .string a0_4, .string a0_5, .slice p8 l0_6.length c0_6, .slice p5 l0_7.length c0_7, .bool a0_8]) (t := 35) ?hr ?_; (case hd => rfl); (case hg => rfl); (case hr => first | (go_simp; done) | (go_simp; rfl)); intro pi hg w5 hbox hb; have n0_ := am_ (below_step (bel_ HB.out) hb); have n1_ := am_ (hbox); have n2_ := am_ ((by rw [hg]; exact (below_size (bel_ HB.out)) : w.heap.size ≤ pi)); have n3_ := am_ ((by rw [hg]; exact (below_size (bel_ HB.out)) : w.heap.size ≤ pi)); clear HB; have HB := n0_; have pc := n1_; have GW623 := n2_; have GE623 := n3_; clear n0_ n1_ n2_ n3_ hb hbox hg; obtain ⟨hcz6_0, hcz6_1, hcz6_2, hcz6_3, hcz6_4, hcz6_5, hcz6_6, hcz6_7, hcz6_8, hfz6_0, hfz6_1, hfz6_2, hfz6_3, hfz6_4, hfz6_5, hfz6_6, hfz6_7, hfz6_8⟩ := blk9 pc.out) | ((with_reducible refine gate_callee (f := 15) rfl ?_); refine goesL_ (some 12) rfl rfl Tryz.func15 kr_ rfl #[.agg #[.slice qf l0_0.length c0_0, .int .i64 a0_1, .string a0_2, .string a0_3, .string a0_4, .string a0_5, .slice p8 l0_6.length c0_6, .slice p5 l0_7.length c0_7, .bool a0_8]] rfl rl_ ?_; (with_reducible refine (tolllaw07_cut.calls k _ _ l0_0 a0_1 a0_2 a0_3 a0_4 a0_5 _ _ l0_6 _ _ l0_7 a0_8 pa ps pu pv pz pA pn pm pD _ ?side1 ?side2 ?side3 ?side4 ?side5 ?side6 A2.out).mono ?_); (case side1 => exact C_ (Kd.C_below qs.out HB.out)); (case side2 => exact qt.out); (case side3 => exact C_ (Kd.C_below qu.out HB.out)); (case side4 => exact qv.out); (case side5 => exact C_ (Kd.C_below qw.out HB.out)); (case side6 => exact qx.out); rintro e w7 ⟨qD, qE, qF, rfl, ho0, ho1, ho2, hb⟩; refine ⟨_, rfl, ?_⟩; have n0_ := am_ (Kd.R_lower ho0 (below_size (bel_ HB.out))); have n1_ := am_ (Kd.R_lower ho1 (below_size (bel_ HB.out))); have n2_ := am_ (Kd.R_lower ho2 (below_size (bel_ HB.out))); have n3_ := am_ (blk_below pc.out hb); have n4_ := am_ (below_step (bel_ HB.out) hb); clear pc HB; have pP := n0_; have p0 := n1_; have p1 := n2_; have pc := n3_; have HB := n4_; clear n0_ n1_ n2_ n3_ n4_; (try clear hb); (try clear hb2); (try clear hk); (try clear hi); (try clear ho0); (try clear ho1); (try clear ho2); obtain ⟨pS, pB, eo8⟩ := Kd.R_slice pP.out; subst eo8; obtain ⟨hcz9_0, hcz9_1, hcz9_2, hcz9_3, hcz9_4, hcz9_5, hcz9_6, hcz9_7, hcz9_8, hfz9_0, hfz9_1, hfz9_2, hfz9_3, hfz9_4, hfz9_5, hfz9_6, hfz9_7, hfz9_8⟩ := blk9 pc.out; obtain ⟨pI, pJ, eo10⟩ := Kd.R_slice p0.out; subst eo10; obtain ⟨pG, pH, eo11⟩ := Kd.R_slice p1.out; subst eo11) | ((with_reducible refine gate_store (t := 35) (p := 1) rfl ?_); refine store_event (t := 35) (p := 1) (v := ?vo_w12) (w1 := (((((((((w7.setCell ⟨pi, 0, none⟩ (.slice pS pa.length pB)).setCell ⟨pi, 1, none⟩ (.int .i64 ps)).setCell ⟨pi, 2, none⟩ (.string pu)).setCell ⟨pi, 3, none⟩ (.string pv)).setCell ⟨pi, 4, none⟩ (.string pz)).setCell ⟨pi, 5, none⟩ (.string pA)).setCell ⟨pi, 6, none⟩ (.slice pI pn.length pJ)).setCell ⟨pi, 7, none⟩ (.slice pG pm.length pH)).setCell ⟨pi, 8, none⟩ (.bool pD))) ?hg ?ho ?hn ?hr ?_; (case ho => rfl); (case hg => rfl); (case hn => rfl); (case hr => first | (go_simp; done) | (go_simp; rfl)); intro w12 hw; have n0_ : Aside0 (Kd.R k26 26 w12 w.heap.size (fun _ => True) (.slice pS pa.length pB) pa) := ⟨(by rw [hw]; exact (by (with_reducible repeat (first | apply Kd.R_alloc | apply Kd.R_drewN | apply Kd.R_drew)); exact Kd.R_mono (Kd.R_far (p := ⟨pi, 8, none⟩) (Kd.R_far (p := ⟨pi, 7, none⟩) (Kd.R_far (p := ⟨pi, 6, none⟩) (Kd.R_far (p := ⟨pi, 5, none⟩) (Kd.R_far (p := ⟨pi, 4, none⟩) (Kd.R_far (p := ⟨pi, 3, none⟩) (Kd.R_far (p := ⟨pi, 2, none⟩) (Kd.R_far (p := ⟨pi, 1, none⟩) (Kd.R_far (p := ⟨pi, 0, none⟩) (Kd.R_types pP.out pc.out (by decide)) (fun _ hk => hk.2) (.slice pS pa.length pB)) (fun _ hk => hk.2) (.int .i64 ps)) (fun _ hk => hk.2) (.string pu)) (fun _ hk => hk.2) (.string pv)) (fun _ hk => hk.2) (.string pz)) (fun _ hk => hk.2) (.string pA)) (fun _ hk => hk.2) (.slice pI pn.length pJ)) (fun _ hk => hk.2) (.slice pG pm.length pH)) (fun _ hk => hk.2) (.bool pD)) (fun _ hk => trivial)))⟩; have n1_ : Aside0 (Kd.R k59 59 w12 w.heap.size (fun k_ => some k_ ≠ (.slice pG pm.length pH : Value).ownBlock) (.slice pI pn.length pJ) pn) := ⟨(by rw [hw]; exact (by (with_reducible repeat (first | apply Kd.R_alloc | apply Kd.R_drewN | apply Kd.R_drew)); exact Kd.R_mono (Kd.R_far (p := ⟨pi, 8, none⟩) (Kd.R_far (p := ⟨pi, 7, none⟩) (Kd.R_far (p := ⟨pi, 6, none⟩) (Kd.R_far (p := ⟨pi, 5, none⟩) (Kd.R_far (p := ⟨pi, 4, none⟩) (Kd.R_far (p := ⟨pi, 3, none⟩) (Kd.R_far (p := ⟨pi, 2, none⟩) (Kd.R_far (p := ⟨pi, 1, none⟩) (Kd.R_far (p := ⟨pi, 0, none⟩) (Kd.R_types p0.out pc.out (by decide)) (fun _ hk => hk.2) (.slice pS pa.length pB)) (fun _ hk => hk.2) (.int .i64 ps)) (fun _ hk => hk.2) (.string pu)) (fun _ hk => hk.2) (.string pv)) (fun _ hk => hk.2) (.string pz)) (fun _ hk => hk.2) (.string pA)) (fun _ hk => hk.2) (.slice pI pn.length pJ)) (fun _ hk => hk.2) (.slice pG pm.length pH)) (fun _ hk => hk.2) (.bool pD)) (fun _ hk => hk.1)))⟩; have n2_ : Aside0 (Kd.R k59 59 w12 w.heap.size (fun k_ => some k_ ≠ (.slice pI pn.length pJ : Value).ownBlock) (.slice pG pm.length pH) pm) := ⟨(by rw [hw]; exact (by (with_reducible repeat (first | apply Kd.R_alloc | apply Kd.R_drewN | apply Kd.R_drew)); exact Kd.R_mono (Kd.R_far (p := ⟨pi, 8, none⟩) (Kd.R_far (p := ⟨pi, 7, none⟩) (Kd.R_far (p := ⟨pi, 6, none⟩) (Kd.R_far (p := ⟨pi, 5, none⟩) (Kd.R_far (p := ⟨pi, 4, none⟩) (Kd.R_far (p := ⟨pi, 3, none⟩) (Kd.R_far (p := ⟨pi, 2, none⟩) (Kd.R_far (p := ⟨pi, 1, none⟩) (Kd.R_far (p := ⟨pi, 0, none⟩) (Kd.R_types p1.out pc.out (by decide)) (fun _ hk => hk.2) (.slice pS pa.length pB)) (fun _ hk => hk.2) (.int .i64 ps)) (fun _ hk => hk.2) (.string pu)) (fun _ hk => hk.2) (.string pv)) (fun _ hk => hk.2) (.string pz)) (fun _ hk => hk.2) (.string pA)) (fun _ hk => hk.2) (.slice pI pn.length pJ)) (fun _ hk => hk.2) (.slice pG pm.length pH)) (fun _ hk => hk.2) (.bool pD)) (fun _ hk => hk.1)))⟩; have n3_ : Aside0 (w12.heap[pi]? = some (.cells #[.slice pS pa.length pB, .int .i64 ps, .string pu, .string pv, .string pz, .string pA, .slice pI pn.length pJ, .slice pG pm.length pH, .bool pD] 35 (0, 0))) := ⟨(by rw [hw]; exact (by (with_reducible repeat (first | refine blk_drewN ?_ _ | refine blk_drew ?_ | refine blk_alloc ?_ _)); refine blk_put (cs := #[.slice pS pa.length pB, .int .i64 ps, .string pu, .string pv, .string pz, .string pA, .slice pI pn.length pJ, .slice pG pm.length pH, .bool a0_8]) ?_ 8 _ rfl; (with_reducible repeat (first | refine blk_drewN ?_ _ | refine blk_drew ?_ | refine blk_alloc ?_ _)); refine blk_put (cs := #[.slice pS pa.length pB, .int .i64 ps, .string pu, .string pv, .string pz, .string pA, .slice pI pn.length pJ, .slice p5 l0_7.length c0_7, .bool a0_8]) ?_ 7 _ rfl; (with_reducible repeat (first | refine blk_drewN ?_ _ | refine blk_drew ?_ | refine blk_alloc ?_ _)); refine blk_put (cs := #[.slice pS pa.length pB, .int .i64 ps, .string pu, .string pv, .string pz, .string pA, .slice p8 l0_6.length c0_6, .slice p5 l0_7.length c0_7, .bool a0_8]) ?_ 6 _ rfl; (with_reducible repeat (first | refine blk_drewN ?_ _ | refine blk_drew ?_ | refine blk_alloc ?_ _)); refine blk_put (cs := #[.slice pS pa.length pB, .int .i64 ps, .string pu, .string pv, .string pz, .string a0_5, .slice p8 l0_6.length c0_6, .slice p5 l0_7.length c0_7, .bool a0_8]) ?_ 5 _ rfl; (with_reducible repeat (first | refine blk_drewN ?_ _ | refine blk_drew ?_ | refine blk_alloc ?_ _)); refine blk_put (cs := #[.slice pS pa.length pB, .int .i64 ps, .string pu, .string pv, .string a0_4, .string a0_5, .slice p8 l0_6.length c0_6, .slice p5 l0_7.length c0_7, .bool a0_8]) ?_ 4 _ rfl; (with_reducible repeat (first | refine blk_drewN ?_ _ | refine blk_drew ?_ | refine blk_alloc ?_ _)); refine blk_put (cs := #[.slice pS pa.length pB, .int .i64 ps, .string pu, .string a0_3, .string a0_4, .string a0_5, .slice p8 l0_6.length c0_6, .slice p5 l0_7.length c0_7, .bool a0_8]) ?_ 3 _ rfl; (with_reducible repeat (first | refine blk_drewN ?_ _ | refine blk_drew ?_ | refine blk_alloc ?_ _)); refine blk_put (cs := #[.slice pS pa.length pB, .int .i64 ps, .string a0_2, .string a0_3, .string a0_4, .string a0_5, .slice p8 l0_6.length c0_6, .slice p5 l0_7.length c0_7, .bool a0_8]) ?_ 2 _ rfl; (with_reducible repeat (first | refine blk_drewN ?_ _ | refine blk_drew ?_ | refine blk_alloc ?_ _)); refine blk_put (cs := #[.slice pS pa.length pB, .int .i64 a0_1, .string a0_2, .string a0_3, .string a0_4, .string a0_5, .slice p8 l0_6.length c0_6, .slice p5 l0_7.length c0_7, .bool a0_8]) ?_ 1 _ rfl; (with_reducible repeat (first | refine blk_drewN ?_ _ | refine blk_drew ?_ | refine blk_alloc ?_ _)); refine blk_put (cs := #[.slice qf l0_0.length c0_0, .int .i64 a0_1, .string a0_2, .string a0_3, .string a0_4, .string a0_5, .slice p8 l0_6.length c0_6, .slice p5 l0_7.length c0_7, .bool a0_8]) ?_ 0 _ rfl; (with_reducible repeat (first | refine blk_drewN ?_ _ | refine blk_drew ?_ | refine blk_alloc ?_ _)); exact pc.out))⟩; have n4_ : Aside0 (Below w.heap.size w w12) := ⟨(by rw [hw]; exact (bel_ HB.out))⟩; clear hw pP p0 p1 pc HB; have pP := n0_; have p0 := n1_; have p1 := n2_; have pc := n3_; have HB := n4_; clear n0_ n1_ n2_ n3_ n4_; obtain ⟨hcz13_0, hcz13_1, hcz13_2, hcz13_3, hcz13_4, hcz13_5, hcz13_6, hcz13_7, hcz13_8, hfz13_0, hfz13_1, hfz13_2, hfz13_3, hfz13_4, hfz13_5, hfz13_6, hfz13_7, hfz13_8⟩ := blk9 pc.out) | ((with_reducible refine gate_callee (f := 17) rfl ?_); refine goesL_ (some 20) rfl rfl Tryz.func17 kr_ rfl #[.slice pS pa.length pB, .agg #[.int .i64 ps, .string pu], .agg #[.string pv, .string pz, .string pA, .slice pI pn.length pJ, .slice pG pm.length pH]] rfl rl_ ?_; (with_reducible refine (filter_Do.calls k _ _ pa ps pu pv pz pA (fun k_ => some k_ = (.slice pI pn.length pJ : Value).ownBlock) _ _ pn (fun k_ => some k_ = (.slice pG pm.length pH : Value).ownBlock) _ _ pm pC pE pF pt pq qg _ ?side1 ?side2 ?side3 ?side4 A3.out).mono ?_); (case side1 => exact C_ (Kd.R_reads' pP.out).2.2); (case side2 => exact (Kd.R_reads' pP.out).2.1); (case side3 => exact Kd.R_V (Kd.R_tight rfl (Kd.R_types (Kd.R_apart' (p0.out) (Kd.R_typed pP.out) (by decide)) pc.out (by decide)))); (case side4 => exact Kd.R_V (Kd.R_tight rfl (Kd.R_types (Kd.R_apart' (p1.out) (Kd.R_typed pP.out) (by decide)) pc.out (by decide)))); rintro e w14 ⟨qG, qH, rfl, ho0, ho1, hb⟩; refine ⟨_, rfl, ?_⟩; have n0_ := am_ (Kd.R_below (R_ pP.out) hb); have n1_ := am_ (Kd.R_below (R_ p0.out) hb); have n2_ := am_ (Kd.R_below (R_ p1.out) hb); have n3_ := am_ (Kd.V_lower (Kd.V_mono (ok' := fun k_ => some k_ ≠ (.slice pS pa.length pB : Value).ownBlock ∧ k_ ≠ pi) ho0 (fun k_ hk_ => ⟨Or.elim hk_ (fun hs_ => Or.elim hs_ (fun hs_ => ((Kd.R_types (Kd.R_apart' (p0.out) (Kd.R_typed pP.out) (by decide)) pc.out (by decide)).1 k_ hs_.symm).1.2) (fun hs_ => ((Kd.R_types (Kd.R_apart' (p1.out) (Kd.R_typed pP.out) (by decide)) pc.out (by decide)).1 k_ hs_.symm).1.2)) (fun hn_ => (Kd.fresh' (Kd.R_lt (R_ pP.out)) k_ hn_)), Or.elim hk_ (fun hs_ => Or.elim hs_ (fun hs_ => ((Kd.R_types (Kd.R_apart' (p0.out) (Kd.R_typed pP.out) (by decide)) pc.out (by decide)).1 k_ hs_.symm).2) (fun hs_ => ((Kd.R_types (Kd.R_apart' (p1.out) (Kd.R_typed pP.out) (by decide)) pc.out (by decide)).1 k_ hs_.symm).2)) (fun hn_ => (Kd.freshB pc.out k_ hn_))⟩)) (below_size (bel_ HB.out))); have n4_ := am_ (Kd.V_lower (Kd.V_mono (ok' := fun k_ => some k_ ≠ (.slice pS pa.length pB : Value).ownBlock ∧ k_ ≠ pi) ho1 (fun k_ hk_ => ⟨Or.elim hk_ (fun hs_ => Or.elim hs_ (fun hs_ => ((Kd.R_types (Kd.R_apart' (p0.out) (Kd.R_typed pP.out) (by decide)) pc.out (by decide)).1 k_ hs_.symm).1.2) (fun hs_ => ((Kd.R_types (Kd.R_apart' (p1.out) (Kd.R_typed pP.out) (by decide)) pc.out (by decide)).1 k_ hs_.symm).1.2)) (fun hn_ => (Kd.fresh' (Kd.R_lt (R_ pP.out)) k_ hn_)), Or.elim hk_ (fun hs_ => Or.elim hs_ (fun hs_ => ((Kd.R_types (Kd.R_apart' (p0.out) (Kd.R_typed pP.out) (by decide)) pc.out (by decide)).1 k_ hs_.symm).2) (fun hs_ => ((Kd.R_types (Kd.R_apart' (p1.out) (Kd.R_typed pP.out) (by decide)) pc.out (by decide)).1 k_ hs_.symm).2)) (fun hn_ => (Kd.freshB pc.out k_ hn_))⟩)) (below_size (bel_ HB.out))); have n5_ := am_ (blk_below pc.out hb); have n6_ := am_ (below_step (bel_ HB.out) hb); clear pP p0 p1 pc HB; have pP := n0_; have p0 := n1_; have p1 := n2_; have qh := n3_; have qi := n4_; have pc := n5_; have HB := n6_; clear n0_ n1_ n2_ n3_ n4_ n5_ n6_; (try clear hb); (try clear hb2); (try clear hk); (try clear hi); (try clear ho0); (try clear ho1)) | ((with_reducible refine gate_dst (N := 3) rfl ?_); (try (refine gate_guard (by rfl) ?_; dsimp only)); refine box_event ?hg (N := 3) ?hd (cs := #[.string (⟨#[]⟩ : ByteArray), .string (⟨#[]⟩ : ByteArray), .string (⟨#[]⟩ : ByteArray), .slice none 0 0, .slice none 0 0]) (t := 33) ?hr ?_; (case hd => rfl); (case hg => rfl); (case hr => first | (go_simp; done) | (go_simp; rfl)); intro po hg w15 hbox hb; have n0_ := am_ (Kd.R_below (R_ pP.out) hb); have n1_ := am_ (Kd.R_below (R_ p0.out) hb); have n2_ := am_ (Kd.R_below (R_ p1.out) hb); have n3_ := am_ (Kd.V_below (Kd.V_elderB (by (with_reducible repeat (first | apply Kd.V_alloc | apply Kd.V_drewN | apply Kd.V_drew)); exact qh.out) po (Nat.le_of_eq hg.symm)) hb); have n4_ := am_ (Kd.V_below (Kd.V_elderB (by (with_reducible repeat (first | apply Kd.V_alloc | apply Kd.V_drewN | apply Kd.V_drew)); exact qi.out) po (Nat.le_of_eq hg.symm)) hb); have n5_ := am_ (blk_below pc.out hb); have n6_ := am_ (below_step (bel_ HB.out) hb); have n7_ := am_ (hbox); have n8_ := am_ ((by rw [hg]; exact (below_size (bel_ HB.out)) : w.heap.size ≤ po)); have n9_ := am_ ((by rw [hg]; exact (below_size (bel_ HB.out)) : w.heap.size ≤ po)); have n10_ := am_ ((by rw [hg]; exact Nat.ne_of_lt (blk_lt pc.out) : pi ≠ po)); have n11_ := am_ ((by rw [hg]; exact Nat.ne_of_gt (blk_lt pc.out) : po ≠ pi)); clear pP p0 p1 qh qi pc HB; have pP := n0_; have p0 := n1_; have p1 := n2_; have qh := n3_; have qi := n4_; have pc := n5_; have HB := n6_; have pe := n7_; have GW649 := n8_; have GE649 := n9_; have NB623_649 := n10_; have NB649_623 := n11_; clear n0_ n1_ n2_ n3_ n4_ n5_ n6_ n7_ n8_ n9_ n10_ n11_ hb hbox hg; have hnb16 := NB649_623.out; have hnc16 := NB623_649.out; obtain ⟨hcz17_0, hcz17_1, hcz17_2, hcz17_3, hcz17_4, hfz17_0, hfz17_1, hfz17_2, hfz17_3, hfz17_4⟩ := blk5 pe.out; obtain ⟨pW, pX, eo18⟩ := Kd.V_slice qh.out; subst eo18; obtain ⟨pT, pU, eo19⟩ := Kd.V_slice qi.out; subst eo19))
  go_loopg [5] k (fun kq v5 w' => ∃ (x5_1 : Int), v5 = .int .i64 x5_1 ∧ Aside0 (tolllaw07_FilterFields_g2.l0 kq x5_1 pa ps pu pv pz pA pn pm pD pC pE pF pt pq = some r) ∧ Aside0 (kq ≤ k) ∧ Aside0 (Kd.R k26 26 w' w.heap.size (fun _ => True) (.slice pS pa.length pB) pa) ∧ Aside0 (Kd.R k59 59 w' w.heap.size (fun k_ => some k_ ≠ ((.slice pG pm.length pH) : Value).ownBlock) (.slice pI pn.length pJ) pn) ∧ Aside0 (Kd.R k59 59 w' w.heap.size (fun k_ => some k_ ≠ ((.slice pI pn.length pJ) : Value).ownBlock) (.slice pG pm.length pH) pm) ∧ Aside0 (Kd.V k59 59 w' w.heap.size (fun k_ => some k_ ≠ ((.slice pS pa.length pB) : Value).ownBlock ∧ k_ ≠ pi ∧ k_ ≠ po) (.slice pW pt.length pX) pt) ∧ Aside0 (Kd.V k59 59 w' w.heap.size (fun k_ => some k_ ≠ ((.slice pS pa.length pB) : Value).ownBlock ∧ k_ ≠ pi ∧ k_ ≠ po) (.slice pT pq.length pU) pq) ∧ Aside0 (w'.heap[pi]? = some (.cells #[(.slice pS pa.length pB), .int .i64 ps, .string pu, .string pv, .string pz, .string pA, (.slice pI pn.length pJ), (.slice pG pm.length pH), .bool pD] 35 (0, 0))) ∧ Aside0 (w'.heap[po]? = some (.cells #[.string pC, .string pE, .string pF, (.slice pW pt.length pX), (.slice pT pq.length pU)] 33 (0, 0))) ∧ Aside0 (Below w.heap.size w w'))
  case atStart => exact ⟨(0), sd_, H', ⟨Nat.le_refl _⟩, ⟨by (with_reducible repeat (first | apply Kd.R_alloc | apply Kd.R_drewN | apply Kd.R_drew)); exact Kd.R_mono (Kd.R_far (p := ⟨po, 4, none⟩) (Kd.R_far (p := ⟨po, 3, none⟩) (Kd.R_far (p := ⟨po, 2, none⟩) (Kd.R_far (p := ⟨po, 1, none⟩) (Kd.R_far (p := ⟨po, 0, none⟩) (Kd.R_types pP.out pe.out (by decide)) (fun _ hk => hk.2) (.string pC)) (fun _ hk => hk.2) (.string pE)) (fun _ hk => hk.2) (.string pF)) (fun _ hk => hk.2) (.slice pW pt.length pX)) (fun _ hk => hk.2) (.slice pT pq.length pU)) (fun _ hk => trivial)⟩, ⟨by (with_reducible repeat (first | apply Kd.R_alloc | apply Kd.R_drewN | apply Kd.R_drew)); exact Kd.R_mono (Kd.R_far (p := ⟨po, 4, none⟩) (Kd.R_far (p := ⟨po, 3, none⟩) (Kd.R_far (p := ⟨po, 2, none⟩) (Kd.R_far (p := ⟨po, 1, none⟩) (Kd.R_far (p := ⟨po, 0, none⟩) (Kd.R_types p0.out pe.out (by decide)) (fun _ hk => hk.2) (.string pC)) (fun _ hk => hk.2) (.string pE)) (fun _ hk => hk.2) (.string pF)) (fun _ hk => hk.2) (.slice pW pt.length pX)) (fun _ hk => hk.2) (.slice pT pq.length pU)) (fun _ hk => hk.1)⟩, ⟨by (with_reducible repeat (first | apply Kd.R_alloc | apply Kd.R_drewN | apply Kd.R_drew)); exact Kd.R_mono (Kd.R_far (p := ⟨po, 4, none⟩) (Kd.R_far (p := ⟨po, 3, none⟩) (Kd.R_far (p := ⟨po, 2, none⟩) (Kd.R_far (p := ⟨po, 1, none⟩) (Kd.R_far (p := ⟨po, 0, none⟩) (Kd.R_types p1.out pe.out (by decide)) (fun _ hk => hk.2) (.string pC)) (fun _ hk => hk.2) (.string pE)) (fun _ hk => hk.2) (.string pF)) (fun _ hk => hk.2) (.slice pW pt.length pX)) (fun _ hk => hk.2) (.slice pT pq.length pU)) (fun _ hk => hk.1)⟩, ⟨by (with_reducible repeat (first | apply Kd.V_alloc | apply Kd.V_drewN | apply Kd.V_drew)); exact Kd.V_mono (Kd.V_far (p := ⟨po, 4, none⟩) (Kd.V_far (p := ⟨po, 3, none⟩) (Kd.V_far (p := ⟨po, 2, none⟩) (Kd.V_far (p := ⟨po, 1, none⟩) (Kd.V_far (p := ⟨po, 0, none⟩) (Kd.V_mono qh.out (fun k_ hk => (⟨hk, hk.2⟩ : _ ∧ k_ ≠ po))) (fun _ hk => hk.2) (.string pC)) (fun _ hk => hk.2) (.string pE)) (fun _ hk => hk.2) (.string pF)) (fun _ hk => hk.2) (.slice pW pt.length pX)) (fun _ hk => hk.2) (.slice pT pq.length pU)) (fun _ hk => ⟨hk.1.1.1, ⟨hk.1.1.2, hk.1.2⟩⟩)⟩, ⟨by (with_reducible repeat (first | apply Kd.V_alloc | apply Kd.V_drewN | apply Kd.V_drew)); exact Kd.V_mono (Kd.V_far (p := ⟨po, 4, none⟩) (Kd.V_far (p := ⟨po, 3, none⟩) (Kd.V_far (p := ⟨po, 2, none⟩) (Kd.V_far (p := ⟨po, 1, none⟩) (Kd.V_far (p := ⟨po, 0, none⟩) (Kd.V_mono qi.out (fun k_ hk => (⟨hk, hk.2⟩ : _ ∧ k_ ≠ po))) (fun _ hk => hk.2) (.string pC)) (fun _ hk => hk.2) (.string pE)) (fun _ hk => hk.2) (.string pF)) (fun _ hk => hk.2) (.slice pW pt.length pX)) (fun _ hk => hk.2) (.slice pT pq.length pU)) (fun _ hk => ⟨hk.1.1.1, ⟨hk.1.1.2, hk.1.2⟩⟩)⟩, ⟨by (with_reducible repeat (first | refine blk_drewN ?_ _ | refine blk_drew ?_ | refine blk_alloc ?_ _)); refine blk_far ?_ NB623_649.out _; (with_reducible repeat (first | refine blk_drewN ?_ _ | refine blk_drew ?_ | refine blk_alloc ?_ _)); refine blk_far ?_ NB623_649.out _; (with_reducible repeat (first | refine blk_drewN ?_ _ | refine blk_drew ?_ | refine blk_alloc ?_ _)); refine blk_far ?_ NB623_649.out _; (with_reducible repeat (first | refine blk_drewN ?_ _ | refine blk_drew ?_ | refine blk_alloc ?_ _)); refine blk_far ?_ NB623_649.out _; (with_reducible repeat (first | refine blk_drewN ?_ _ | refine blk_drew ?_ | refine blk_alloc ?_ _)); refine blk_far ?_ NB623_649.out _; (with_reducible repeat (first | refine blk_drewN ?_ _ | refine blk_drew ?_ | refine blk_alloc ?_ _)); exact pc.out⟩, ⟨by (with_reducible repeat (first | refine blk_drewN ?_ _ | refine blk_drew ?_ | refine blk_alloc ?_ _)); refine blk_put (cs := #[.string pC, .string pE, .string pF, .slice pW pt.length pX, .slice none 0 0]) ?_ 4 _ rfl; (with_reducible repeat (first | refine blk_drewN ?_ _ | refine blk_drew ?_ | refine blk_alloc ?_ _)); refine blk_put (cs := #[.string pC, .string pE, .string pF, .slice none 0 0, .slice none 0 0]) ?_ 3 _ rfl; (with_reducible repeat (first | refine blk_drewN ?_ _ | refine blk_drew ?_ | refine blk_alloc ?_ _)); refine blk_put (cs := #[.string pC, .string pE, .string (⟨#[]⟩ : ByteArray), .slice none 0 0, .slice none 0 0]) ?_ 2 _ rfl; (with_reducible repeat (first | refine blk_drewN ?_ _ | refine blk_drew ?_ | refine blk_alloc ?_ _)); refine blk_put (cs := #[.string pC, .string (⟨#[]⟩ : ByteArray), .string (⟨#[]⟩ : ByteArray), .slice none 0 0, .slice none 0 0]) ?_ 1 _ rfl; (with_reducible repeat (first | refine blk_drewN ?_ _ | refine blk_drew ?_ | refine blk_alloc ?_ _)); refine blk_put (cs := #[.string (⟨#[]⟩ : ByteArray), .string (⟨#[]⟩ : ByteArray), .string (⟨#[]⟩ : ByteArray), .slice none 0 0, .slice none 0 0]) ?_ 0 _ rfl; (with_reducible repeat (first | refine blk_drewN ?_ _ | refine blk_drew ?_ | refine blk_alloc ?_ _)); exact pe.out⟩, ⟨bel_ HB.out⟩⟩
  case round =>
   clear H';try clear c1
   try clear p2
   try clear c4
   try clear c4b0
   try clear c4b1
   try clear c6
   try clear c15
   try clear c16
   try clear c17
   try clear hcz13_0
   try clear hcz13_1
   try clear hcz13_2
   try clear hcz13_3
   try clear hcz13_4
   try clear hcz13_5
   try clear hcz13_6
   try clear hcz13_7
   try clear hcz13_8
   try clear hcz17_0
   try clear hcz17_1
   try clear hcz17_2
   try clear hcz17_3
   try clear hcz17_4
   try clear hcz6_0
   try clear hcz6_1
   try clear hcz6_2
   try clear hcz6_3
   try clear hcz6_4
   try clear hcz6_5
   try clear hcz6_6
   try clear hcz6_7
   try clear hcz6_8
   try clear hcz9_0
   try clear hcz9_1
   try clear hcz9_2
   try clear hcz9_3
   try clear hcz9_4
   try clear hcz9_5
   try clear hcz9_6
   try clear hcz9_7
   try clear hcz9_8
   try clear hfz13_0
   try clear hfz13_1
   try clear hfz13_2
   try clear hfz13_3
   try clear hfz13_4
   try clear hfz13_5
   try clear hfz13_6
   try clear hfz13_7
   try clear hfz13_8
   try clear hfz17_0
   try clear hfz17_1
   try clear hfz17_2
   try clear hfz17_3
   try clear hfz17_4
   try clear hfz6_0
   try clear hfz6_1
   try clear hfz6_2
   try clear hfz6_3
   try clear hfz6_4
   try clear hfz6_5
   try clear hfz6_6
   try clear hfz6_7
   try clear hfz6_8
   try clear hfz9_0
   try clear hfz9_1
   try clear hfz9_2
   try clear hfz9_3
   try clear hfz9_4
   try clear hfz9_5
   try clear hfz9_6
   try clear hfz9_7
   try clear hfz9_8
   obtain ⟨x5_1, rfl, HA, HK1, pf, pj, pg, pk, ph, pc, pe, HB⟩ := hrel;cases gk with
   | zero => exact absurd HA.out (by simp [tolllaw07_FilterFields_g2.l0])
   | succ k1 =>
    have H := HA.out;clear HA;simp only [tolllaw07_FilterFields_g2.l0] at H;by_cases c20 : x5_1 < (pa.length : Int)
    ·rw [if_pos c20] at H
     have c20b0 : decide (x5_1 < (pa.length : Int)) = true := decide_eq_true c20;clear c20;by_cases c21 : 0 ≤ x5_1
     ·rw [if_pos c21] at H
      have c21b0 : decide (0 ≤ x5_1) = true := decide_eq_true c21;clear c21;by_cases c22 : ((rd_T26 pa x5_1).f0) > 3
      ·rw [if_pos c22] at H
       have c22b0 : decide (3 < ((rd_T26 pa x5_1).f0)) = true := decide_eq_true c22;clear c22;have H' := Aside0.mk H;clear H;have hnb23 := NB623_649.out;have hnc23 := NB649_623.out;obtain ⟨hcz24_0, hcz24_1, hcz24_2, hcz24_3, hcz24_4, hcz24_5, hcz24_6, hcz24_7, hcz24_8, hfz24_0, hfz24_1, hfz24_2, hfz24_3, hfz24_4, hfz24_5, hfz24_6, hfz24_7, hfz24_8⟩ := blk9 pc.out;have p652 : 0 ≤ (x5_1 : Int) := of_decide_eq_true as_;have q652 : x5_1 < (pa.length : Int) := of_decide_eq_true as_;obtain ⟨pl, e652, hx652_0, hx652_1, hx652_2, hx652_3, hx652_4, hx652_5, hx652_6, hx652_7⟩ := at_T26 (Kd.R_reads' pf.out).2.2 x5_1 p652 q652;cases e652;replace p652 := eq_true p652;replace q652 := eq_true q652;go_wp2_with (first | ((with_reducible refine gate_dst (N := 6) rfl ?_); (try (refine gate_guard (by rfl) ?_; dsimp only)); refine box_event ?hg (N := 6) ?hd (cs := #[.int .i64 0, .string (⟨#[]⟩ : ByteArray), .string (⟨#[]⟩ : ByteArray), .string (⟨#[]⟩ : ByteArray), .int .i64 0, .string (⟨#[]⟩ : ByteArray), .bool false, .int .i64 0]) (t := 26) ?hr ?_; (case hd => rfl); (case hg => rfl); (case hr => first | (go_simp; done) | (go_simp; rfl)); intro pd hg w25 hbox hb; have n0_ := am_ (Kd.R_below (Kd.R_elderB (R_ pf.out) pd (Nat.le_of_eq hg.symm)) hb); have n1_ := am_ (Kd.R_below (R_ pj.out) hb); have n2_ := am_ (Kd.R_below (R_ pg.out) hb); have n3_ := am_ (Kd.V_below (Kd.V_elderB (by (with_reducible repeat (first | apply Kd.V_alloc | apply Kd.V_drewN | apply Kd.V_drew)); exact pk.out) pd (Nat.le_of_eq hg.symm)) hb); have n4_ := am_ (Kd.V_below (Kd.V_elderB (by (with_reducible repeat (first | apply Kd.V_alloc | apply Kd.V_drewN | apply Kd.V_drew)); exact ph.out) pd (Nat.le_of_eq hg.symm)) hb); have n5_ := am_ (blk_below pc.out hb); have n6_ := am_ (blk_below pe.out hb); have n7_ := am_ (below_step (bel_ HB.out) hb); have n8_ := am_ (hbox); have n9_ := am_ ((by rw [hg]; exact (below_size (bel_ HB.out)) : w.heap.size ≤ pd)); have n10_ := am_ ((by rw [hg]; exact (below_size (bel_ HB.out)) : w.heap.size ≤ pd)); have n11_ := am_ ((by rw [hg]; exact Nat.ne_of_lt (blk_lt pc.out) : pi ≠ pd)); have n12_ := am_ ((by rw [hg]; exact Nat.ne_of_gt (blk_lt pc.out) : pd ≠ pi)); have n13_ := am_ ((by rw [hg]; exact Nat.ne_of_lt (blk_lt pe.out) : po ≠ pd)); have n14_ := am_ ((by rw [hg]; exact Nat.ne_of_gt (blk_lt pe.out) : pd ≠ po)); clear pf pj pg pk ph pc pe HB; have pf := n0_; have pj := n1_; have pg := n2_; have pk := n3_; have ph := n4_; have pc := n5_; have pe := n6_; have HB := n7_; have pb := n8_; have GW653 := n9_; have GE653 := n10_; have NB623_653 := n11_; have NB653_623 := n12_; have NB649_653 := n13_; have NB653_649 := n14_; clear n0_ n1_ n2_ n3_ n4_ n5_ n6_ n7_ n8_ n9_ n10_ n11_ n12_ n13_ n14_ hb hbox hg; have hnb26 := NB653_623.out; have hnc26 := NB623_653.out; have hnb27 := NB653_649.out; have hnc27 := NB649_653.out; obtain ⟨hcz28_0, hcz28_1, hcz28_2, hcz28_3, hcz28_4, hcz28_5, hcz28_6, hcz28_7, hfz28_0, hfz28_1, hfz28_2, hfz28_3, hfz28_4, hfz28_5, hfz28_6, hfz28_7⟩ := blk8 pb.out))
       go_roundg k1
       case measure => have := HK1.out; omega
       case rel => exact ⟨(wrap64 (x5_1 + 1)), sd_, H', ⟨by have := HK1.out; omega⟩, ⟨by (with_reducible repeat (first | apply Kd.R_alloc | apply Kd.R_drewN | apply Kd.R_drew)); exact Kd.R_mono (Kd.R_far (p := ⟨pd, 7, none⟩) (Kd.R_far (p := ⟨pd, 6, none⟩) (Kd.R_far (p := ⟨pd, 5, none⟩) (Kd.R_far (p := ⟨pd, 4, none⟩) (Kd.R_far (p := ⟨pd, 3, none⟩) (Kd.R_far (p := ⟨pd, 2, none⟩) (Kd.R_far (p := ⟨pd, 1, none⟩) (Kd.R_far (p := ⟨pd, 0, none⟩) (Kd.R_mono pf.out (fun k_ hk => (⟨hk, hk.2⟩ : _ ∧ k_ ≠ pd))) (fun _ hk => hk.2) (.int .i64 ((rd_T26 pa x5_1).f0))) (fun _ hk => hk.2) (.string ((rd_T26 pa x5_1).f1))) (fun _ hk => hk.2) (.string ((rd_T26 pa x5_1).f2))) (fun _ hk => hk.2) (.string ((rd_T26 pa x5_1).f3))) (fun _ hk => hk.2) (.int .i64 ((rd_T26 pa x5_1).f4))) (fun _ hk => hk.2) (.string ((rd_T26 pa x5_1).f5))) (fun _ hk => hk.2) (.bool ((rd_T26 pa x5_1).f6))) (fun _ hk => hk.2) (.int .i64 ((rd_T26 pa x5_1).f7))) (fun _ hk => trivial)⟩, ⟨by (with_reducible repeat (first | apply Kd.R_alloc | apply Kd.R_drewN | apply Kd.R_drew)); exact Kd.R_mono (Kd.R_far (p := ⟨pd, 7, none⟩) (Kd.R_far (p := ⟨pd, 6, none⟩) (Kd.R_far (p := ⟨pd, 5, none⟩) (Kd.R_far (p := ⟨pd, 4, none⟩) (Kd.R_far (p := ⟨pd, 3, none⟩) (Kd.R_far (p := ⟨pd, 2, none⟩) (Kd.R_far (p := ⟨pd, 1, none⟩) (Kd.R_far (p := ⟨pd, 0, none⟩) (Kd.R_types pj.out pb.out (by decide)) (fun _ hk => hk.2) (.int .i64 ((rd_T26 pa x5_1).f0))) (fun _ hk => hk.2) (.string ((rd_T26 pa x5_1).f1))) (fun _ hk => hk.2) (.string ((rd_T26 pa x5_1).f2))) (fun _ hk => hk.2) (.string ((rd_T26 pa x5_1).f3))) (fun _ hk => hk.2) (.int .i64 ((rd_T26 pa x5_1).f4))) (fun _ hk => hk.2) (.string ((rd_T26 pa x5_1).f5))) (fun _ hk => hk.2) (.bool ((rd_T26 pa x5_1).f6))) (fun _ hk => hk.2) (.int .i64 ((rd_T26 pa x5_1).f7))) (fun _ hk => hk.1)⟩, ⟨by (with_reducible repeat (first | apply Kd.R_alloc | apply Kd.R_drewN | apply Kd.R_drew)); exact Kd.R_mono (Kd.R_far (p := ⟨pd, 7, none⟩) (Kd.R_far (p := ⟨pd, 6, none⟩) (Kd.R_far (p := ⟨pd, 5, none⟩) (Kd.R_far (p := ⟨pd, 4, none⟩) (Kd.R_far (p := ⟨pd, 3, none⟩) (Kd.R_far (p := ⟨pd, 2, none⟩) (Kd.R_far (p := ⟨pd, 1, none⟩) (Kd.R_far (p := ⟨pd, 0, none⟩) (Kd.R_types pg.out pb.out (by decide)) (fun _ hk => hk.2) (.int .i64 ((rd_T26 pa x5_1).f0))) (fun _ hk => hk.2) (.string ((rd_T26 pa x5_1).f1))) (fun _ hk => hk.2) (.string ((rd_T26 pa x5_1).f2))) (fun _ hk => hk.2) (.string ((rd_T26 pa x5_1).f3))) (fun _ hk => hk.2) (.int .i64 ((rd_T26 pa x5_1).f4))) (fun _ hk => hk.2) (.string ((rd_T26 pa x5_1).f5))) (fun _ hk => hk.2) (.bool ((rd_T26 pa x5_1).f6))) (fun _ hk => hk.2) (.int .i64 ((rd_T26 pa x5_1).f7))) (fun _ hk => hk.1)⟩, ⟨by (with_reducible repeat (first | apply Kd.V_alloc | apply Kd.V_drewN | apply Kd.V_drew)); exact Kd.V_mono (Kd.V_far (p := ⟨pd, 7, none⟩) (Kd.V_far (p := ⟨pd, 6, none⟩) (Kd.V_far (p := ⟨pd, 5, none⟩) (Kd.V_far (p := ⟨pd, 4, none⟩) (Kd.V_far (p := ⟨pd, 3, none⟩) (Kd.V_far (p := ⟨pd, 2, none⟩) (Kd.V_far (p := ⟨pd, 1, none⟩) (Kd.V_far (p := ⟨pd, 0, none⟩) (Kd.V_mono pk.out (fun k_ hk => (⟨hk, hk.2⟩ : _ ∧ k_ ≠ pd))) (fun _ hk => hk.2) (.int .i64 ((rd_T26 pa x5_1).f0))) (fun _ hk => hk.2) (.string ((rd_T26 pa x5_1).f1))) (fun _ hk => hk.2) (.string ((rd_T26 pa x5_1).f2))) (fun _ hk => hk.2) (.string ((rd_T26 pa x5_1).f3))) (fun _ hk => hk.2) (.int .i64 ((rd_T26 pa x5_1).f4))) (fun _ hk => hk.2) (.string ((rd_T26 pa x5_1).f5))) (fun _ hk => hk.2) (.bool ((rd_T26 pa x5_1).f6))) (fun _ hk => hk.2) (.int .i64 ((rd_T26 pa x5_1).f7))) (fun _ hk => ⟨hk.1.1.1, ⟨hk.1.1.2.1, hk.1.1.2.2⟩⟩)⟩, ⟨by (with_reducible repeat (first | apply Kd.V_alloc | apply Kd.V_drewN | apply Kd.V_drew)); exact Kd.V_mono (Kd.V_far (p := ⟨pd, 7, none⟩) (Kd.V_far (p := ⟨pd, 6, none⟩) (Kd.V_far (p := ⟨pd, 5, none⟩) (Kd.V_far (p := ⟨pd, 4, none⟩) (Kd.V_far (p := ⟨pd, 3, none⟩) (Kd.V_far (p := ⟨pd, 2, none⟩) (Kd.V_far (p := ⟨pd, 1, none⟩) (Kd.V_far (p := ⟨pd, 0, none⟩) (Kd.V_mono ph.out (fun k_ hk => (⟨hk, hk.2⟩ : _ ∧ k_ ≠ pd))) (fun _ hk => hk.2) (.int .i64 ((rd_T26 pa x5_1).f0))) (fun _ hk => hk.2) (.string ((rd_T26 pa x5_1).f1))) (fun _ hk => hk.2) (.string ((rd_T26 pa x5_1).f2))) (fun _ hk => hk.2) (.string ((rd_T26 pa x5_1).f3))) (fun _ hk => hk.2) (.int .i64 ((rd_T26 pa x5_1).f4))) (fun _ hk => hk.2) (.string ((rd_T26 pa x5_1).f5))) (fun _ hk => hk.2) (.bool ((rd_T26 pa x5_1).f6))) (fun _ hk => hk.2) (.int .i64 ((rd_T26 pa x5_1).f7))) (fun _ hk => ⟨hk.1.1.1, ⟨hk.1.1.2.1, hk.1.1.2.2⟩⟩)⟩, ⟨by (with_reducible repeat (first | refine blk_drewN ?_ _ | refine blk_drew ?_ | refine blk_alloc ?_ _)); refine blk_far ?_ NB623_653.out _; (with_reducible repeat (first | refine blk_drewN ?_ _ | refine blk_drew ?_ | refine blk_alloc ?_ _)); refine blk_far ?_ NB623_653.out _; (with_reducible repeat (first | refine blk_drewN ?_ _ | refine blk_drew ?_ | refine blk_alloc ?_ _)); refine blk_far ?_ NB623_653.out _; (with_reducible repeat (first | refine blk_drewN ?_ _ | refine blk_drew ?_ | refine blk_alloc ?_ _)); refine blk_far ?_ NB623_653.out _; (with_reducible repeat (first | refine blk_drewN ?_ _ | refine blk_drew ?_ | refine blk_alloc ?_ _)); refine blk_far ?_ NB623_653.out _; (with_reducible repeat (first | refine blk_drewN ?_ _ | refine blk_drew ?_ | refine blk_alloc ?_ _)); refine blk_far ?_ NB623_653.out _; (with_reducible repeat (first | refine blk_drewN ?_ _ | refine blk_drew ?_ | refine blk_alloc ?_ _)); refine blk_far ?_ NB623_653.out _; (with_reducible repeat (first | refine blk_drewN ?_ _ | refine blk_drew ?_ | refine blk_alloc ?_ _)); refine blk_far ?_ NB623_653.out _; (with_reducible repeat (first | refine blk_drewN ?_ _ | refine blk_drew ?_ | refine blk_alloc ?_ _)); exact pc.out⟩, ⟨by (with_reducible repeat (first | refine blk_drewN ?_ _ | refine blk_drew ?_ | refine blk_alloc ?_ _)); refine blk_far ?_ NB649_653.out _; (with_reducible repeat (first | refine blk_drewN ?_ _ | refine blk_drew ?_ | refine blk_alloc ?_ _)); refine blk_far ?_ NB649_653.out _; (with_reducible repeat (first | refine blk_drewN ?_ _ | refine blk_drew ?_ | refine blk_alloc ?_ _)); refine blk_far ?_ NB649_653.out _; (with_reducible repeat (first | refine blk_drewN ?_ _ | refine blk_drew ?_ | refine blk_alloc ?_ _)); refine blk_far ?_ NB649_653.out _; (with_reducible repeat (first | refine blk_drewN ?_ _ | refine blk_drew ?_ | refine blk_alloc ?_ _)); refine blk_far ?_ NB649_653.out _; (with_reducible repeat (first | refine blk_drewN ?_ _ | refine blk_drew ?_ | refine blk_alloc ?_ _)); refine blk_far ?_ NB649_653.out _; (with_reducible repeat (first | refine blk_drewN ?_ _ | refine blk_drew ?_ | refine blk_alloc ?_ _)); refine blk_far ?_ NB649_653.out _; (with_reducible repeat (first | refine blk_drewN ?_ _ | refine blk_drew ?_ | refine blk_alloc ?_ _)); refine blk_far ?_ NB649_653.out _; (with_reducible repeat (first | refine blk_drewN ?_ _ | refine blk_drew ?_ | refine blk_alloc ?_ _)); exact pe.out⟩, ⟨bel_ HB.out⟩⟩
      ·rw [if_neg c22] at H
       have c22b0 : decide (3 < ((rd_T26 pa x5_1).f0)) = false := decide_eq_false c22;clear c22;have H' := Aside0.mk H;clear H;have hnb29 := NB623_649.out;have hnc29 := NB649_623.out;obtain ⟨hcz30_0, hcz30_1, hcz30_2, hcz30_3, hcz30_4, hcz30_5, hcz30_6, hcz30_7, hcz30_8, hfz30_0, hfz30_1, hfz30_2, hfz30_3, hfz30_4, hfz30_5, hfz30_6, hfz30_7, hfz30_8⟩ := blk9 pc.out;have p652 : 0 ≤ (x5_1 : Int) := of_decide_eq_true as_;have q652 : x5_1 < (pa.length : Int) := of_decide_eq_true as_;obtain ⟨pl, e652, hx652_0, hx652_1, hx652_2, hx652_3, hx652_4, hx652_5, hx652_6, hx652_7⟩ := at_T26 (Kd.R_reads' pf.out).2.2 x5_1 p652 q652;cases e652;replace p652 := eq_true p652;replace q652 := eq_true q652;go_wp2_with (first | ((with_reducible refine gate_dst (N := 6) rfl ?_); (try (refine gate_guard (by rfl) ?_; dsimp only)); refine box_event ?hg (N := 6) ?hd (cs := #[.int .i64 0, .string (⟨#[]⟩ : ByteArray), .string (⟨#[]⟩ : ByteArray), .string (⟨#[]⟩ : ByteArray), .int .i64 0, .string (⟨#[]⟩ : ByteArray), .bool false, .int .i64 0]) (t := 26) ?hr ?_; (case hd => rfl); (case hg => rfl); (case hr => first | (go_simp; done) | (go_simp; rfl)); intro pd hg w31 hbox hb; have n0_ := am_ (Kd.R_below (Kd.R_elderB (R_ pf.out) pd (Nat.le_of_eq hg.symm)) hb); have n1_ := am_ (Kd.R_below (R_ pj.out) hb); have n2_ := am_ (Kd.R_below (R_ pg.out) hb); have n3_ := am_ (Kd.V_below (Kd.V_elderB (by (with_reducible repeat (first | apply Kd.V_alloc | apply Kd.V_drewN | apply Kd.V_drew)); exact pk.out) pd (Nat.le_of_eq hg.symm)) hb); have n4_ := am_ (Kd.V_below (Kd.V_elderB (by (with_reducible repeat (first | apply Kd.V_alloc | apply Kd.V_drewN | apply Kd.V_drew)); exact ph.out) pd (Nat.le_of_eq hg.symm)) hb); have n5_ := am_ (blk_below pc.out hb); have n6_ := am_ (blk_below pe.out hb); have n7_ := am_ (below_step (bel_ HB.out) hb); have n8_ := am_ (hbox); have n9_ := am_ ((by rw [hg]; exact (below_size (bel_ HB.out)) : w.heap.size ≤ pd)); have n10_ := am_ ((by rw [hg]; exact (below_size (bel_ HB.out)) : w.heap.size ≤ pd)); have n11_ := am_ ((by rw [hg]; exact Nat.ne_of_lt (blk_lt pc.out) : pi ≠ pd)); have n12_ := am_ ((by rw [hg]; exact Nat.ne_of_gt (blk_lt pc.out) : pd ≠ pi)); have n13_ := am_ ((by rw [hg]; exact Nat.ne_of_lt (blk_lt pe.out) : po ≠ pd)); have n14_ := am_ ((by rw [hg]; exact Nat.ne_of_gt (blk_lt pe.out) : pd ≠ po)); clear pf pj pg pk ph pc pe HB; have pf := n0_; have pj := n1_; have pg := n2_; have pk := n3_; have ph := n4_; have pc := n5_; have pe := n6_; have HB := n7_; have pb := n8_; have GW653 := n9_; have GE653 := n10_; have NB623_653 := n11_; have NB653_623 := n12_; have NB649_653 := n13_; have NB653_649 := n14_; clear n0_ n1_ n2_ n3_ n4_ n5_ n6_ n7_ n8_ n9_ n10_ n11_ n12_ n13_ n14_ hb hbox hg; have hnb32 := NB653_623.out; have hnc32 := NB623_653.out; have hnb33 := NB653_649.out; have hnc33 := NB649_653.out; obtain ⟨hcz34_0, hcz34_1, hcz34_2, hcz34_3, hcz34_4, hcz34_5, hcz34_6, hcz34_7, hfz34_0, hfz34_1, hfz34_2, hfz34_3, hfz34_4, hfz34_5, hfz34_6, hfz34_7⟩ := blk8 pb.out))
       go_loopg [7, 8] k1 (fun kq v7 v8 w' => ∃ (x7_2 : Bool) (x8_2 : Int), v7 = .bool x7_2 ∧ v8 = .int .i64 x8_2 ∧ Aside0 (tolllaw07_FilterFields_g2.l1 kq x5_1 x7_2 x8_2 pa ps pu pv pz pA pn pm pD pC pE pF pt pq ((rd_T26 pa x5_1).f0) ((rd_T26 pa x5_1).f1) ((rd_T26 pa x5_1).f2) ((rd_T26 pa x5_1).f3) ((rd_T26 pa x5_1).f4) ((rd_T26 pa x5_1).f5) ((rd_T26 pa x5_1).f6) ((rd_T26 pa x5_1).f7) = some r) ∧ Aside0 (kq ≤ k1) ∧ Aside0 (Kd.R k26 26 w' w.heap.size (fun k_ => k_ ≠ pd) (.slice (some pl) pa.length pB) pa) ∧ Aside0 (Kd.R k59 59 w' w.heap.size (fun k_ => some k_ ≠ ((.slice pG pm.length pH) : Value).ownBlock) (.slice pI pn.length pJ) pn) ∧ Aside0 (Kd.R k59 59 w' w.heap.size (fun k_ => some k_ ≠ ((.slice pI pn.length pJ) : Value).ownBlock) (.slice pG pm.length pH) pm) ∧ Aside0 (Kd.V k59 59 w' w.heap.size (fun k_ => some k_ ≠ ((.slice (some pl) pa.length pB) : Value).ownBlock ∧ k_ ≠ pi ∧ k_ ≠ po ∧ k_ ≠ pd) (.slice pW pt.length pX) pt) ∧ Aside0 (Kd.V k59 59 w' w.heap.size (fun k_ => some k_ ≠ ((.slice (some pl) pa.length pB) : Value).ownBlock ∧ k_ ≠ pi ∧ k_ ≠ po ∧ k_ ≠ pd) (.slice pT pq.length pU) pq) ∧ Aside0 (w'.heap[pi]? = some (.cells #[(.slice (some pl) pa.length pB), .int .i64 ps, .string pu, .string pv, .string pz, .string pA, (.slice pI pn.length pJ), (.slice pG pm.length pH), .bool pD] 35 (0, 0))) ∧ Aside0 (w'.heap[po]? = some (.cells #[.string pC, .string pE, .string pF, (.slice pW pt.length pX), (.slice pT pq.length pU)] 33 (0, 0))) ∧ Aside0 (w'.heap[pd]? = some (.cells #[.int .i64 ((rd_T26 pa x5_1).f0), .string ((rd_T26 pa x5_1).f1), .string ((rd_T26 pa x5_1).f2), .string ((rd_T26 pa x5_1).f3), .int .i64 ((rd_T26 pa x5_1).f4), .string ((rd_T26 pa x5_1).f5), .bool ((rd_T26 pa x5_1).f6), .int .i64 ((rd_T26 pa x5_1).f7)] 26 (0, 0))) ∧ Aside0 (Below w.heap.size w w'))
       case atStart => exact ⟨(true), (0), sd_, sd_, H', ⟨Nat.le_refl _⟩, ⟨by (with_reducible repeat (first | apply Kd.R_alloc | apply Kd.R_drewN | apply Kd.R_drew)); exact Kd.R_mono (Kd.R_far (p := ⟨pd, 7, none⟩) (Kd.R_far (p := ⟨pd, 6, none⟩) (Kd.R_far (p := ⟨pd, 5, none⟩) (Kd.R_far (p := ⟨pd, 4, none⟩) (Kd.R_far (p := ⟨pd, 3, none⟩) (Kd.R_far (p := ⟨pd, 2, none⟩) (Kd.R_far (p := ⟨pd, 1, none⟩) (Kd.R_far (p := ⟨pd, 0, none⟩) (Kd.R_mono pf.out (fun k_ hk => (⟨hk, hk.2⟩ : _ ∧ k_ ≠ pd))) (fun _ hk => hk.2) (.int .i64 ((rd_T26 pa x5_1).f0))) (fun _ hk => hk.2) (.string ((rd_T26 pa x5_1).f1))) (fun _ hk => hk.2) (.string ((rd_T26 pa x5_1).f2))) (fun _ hk => hk.2) (.string ((rd_T26 pa x5_1).f3))) (fun _ hk => hk.2) (.int .i64 ((rd_T26 pa x5_1).f4))) (fun _ hk => hk.2) (.string ((rd_T26 pa x5_1).f5))) (fun _ hk => hk.2) (.bool ((rd_T26 pa x5_1).f6))) (fun _ hk => hk.2) (.int .i64 ((rd_T26 pa x5_1).f7))) (fun _ hk => hk.1.2)⟩, ⟨by (with_reducible repeat (first | apply Kd.R_alloc | apply Kd.R_drewN | apply Kd.R_drew)); exact Kd.R_mono (Kd.R_far (p := ⟨pd, 7, none⟩) (Kd.R_far (p := ⟨pd, 6, none⟩) (Kd.R_far (p := ⟨pd, 5, none⟩) (Kd.R_far (p := ⟨pd, 4, none⟩) (Kd.R_far (p := ⟨pd, 3, none⟩) (Kd.R_far (p := ⟨pd, 2, none⟩) (Kd.R_far (p := ⟨pd, 1, none⟩) (Kd.R_far (p := ⟨pd, 0, none⟩) (Kd.R_types pj.out pb.out (by decide)) (fun _ hk => hk.2) (.int .i64 ((rd_T26 pa x5_1).f0))) (fun _ hk => hk.2) (.string ((rd_T26 pa x5_1).f1))) (fun _ hk => hk.2) (.string ((rd_T26 pa x5_1).f2))) (fun _ hk => hk.2) (.string ((rd_T26 pa x5_1).f3))) (fun _ hk => hk.2) (.int .i64 ((rd_T26 pa x5_1).f4))) (fun _ hk => hk.2) (.string ((rd_T26 pa x5_1).f5))) (fun _ hk => hk.2) (.bool ((rd_T26 pa x5_1).f6))) (fun _ hk => hk.2) (.int .i64 ((rd_T26 pa x5_1).f7))) (fun _ hk => hk.1)⟩, ⟨by (with_reducible repeat (first | apply Kd.R_alloc | apply Kd.R_drewN | apply Kd.R_drew)); exact Kd.R_mono (Kd.R_far (p := ⟨pd, 7, none⟩) (Kd.R_far (p := ⟨pd, 6, none⟩) (Kd.R_far (p := ⟨pd, 5, none⟩) (Kd.R_far (p := ⟨pd, 4, none⟩) (Kd.R_far (p := ⟨pd, 3, none⟩) (Kd.R_far (p := ⟨pd, 2, none⟩) (Kd.R_far (p := ⟨pd, 1, none⟩) (Kd.R_far (p := ⟨pd, 0, none⟩) (Kd.R_types pg.out pb.out (by decide)) (fun _ hk => hk.2) (.int .i64 ((rd_T26 pa x5_1).f0))) (fun _ hk => hk.2) (.string ((rd_T26 pa x5_1).f1))) (fun _ hk => hk.2) (.string ((rd_T26 pa x5_1).f2))) (fun _ hk => hk.2) (.string ((rd_T26 pa x5_1).f3))) (fun _ hk => hk.2) (.int .i64 ((rd_T26 pa x5_1).f4))) (fun _ hk => hk.2) (.string ((rd_T26 pa x5_1).f5))) (fun _ hk => hk.2) (.bool ((rd_T26 pa x5_1).f6))) (fun _ hk => hk.2) (.int .i64 ((rd_T26 pa x5_1).f7))) (fun _ hk => hk.1)⟩, ⟨by (with_reducible repeat (first | apply Kd.V_alloc | apply Kd.V_drewN | apply Kd.V_drew)); exact Kd.V_mono (Kd.V_far (p := ⟨pd, 7, none⟩) (Kd.V_far (p := ⟨pd, 6, none⟩) (Kd.V_far (p := ⟨pd, 5, none⟩) (Kd.V_far (p := ⟨pd, 4, none⟩) (Kd.V_far (p := ⟨pd, 3, none⟩) (Kd.V_far (p := ⟨pd, 2, none⟩) (Kd.V_far (p := ⟨pd, 1, none⟩) (Kd.V_far (p := ⟨pd, 0, none⟩) (Kd.V_mono pk.out (fun k_ hk => (⟨hk, hk.2⟩ : _ ∧ k_ ≠ pd))) (fun _ hk => hk.2) (.int .i64 ((rd_T26 pa x5_1).f0))) (fun _ hk => hk.2) (.string ((rd_T26 pa x5_1).f1))) (fun _ hk => hk.2) (.string ((rd_T26 pa x5_1).f2))) (fun _ hk => hk.2) (.string ((rd_T26 pa x5_1).f3))) (fun _ hk => hk.2) (.int .i64 ((rd_T26 pa x5_1).f4))) (fun _ hk => hk.2) (.string ((rd_T26 pa x5_1).f5))) (fun _ hk => hk.2) (.bool ((rd_T26 pa x5_1).f6))) (fun _ hk => hk.2) (.int .i64 ((rd_T26 pa x5_1).f7))) (fun _ hk => ⟨hk.1.1.1, ⟨hk.1.1.2.1, ⟨hk.1.1.2.2, hk.1.2⟩⟩⟩)⟩, ⟨by (with_reducible repeat (first | apply Kd.V_alloc | apply Kd.V_drewN | apply Kd.V_drew)); exact Kd.V_mono (Kd.V_far (p := ⟨pd, 7, none⟩) (Kd.V_far (p := ⟨pd, 6, none⟩) (Kd.V_far (p := ⟨pd, 5, none⟩) (Kd.V_far (p := ⟨pd, 4, none⟩) (Kd.V_far (p := ⟨pd, 3, none⟩) (Kd.V_far (p := ⟨pd, 2, none⟩) (Kd.V_far (p := ⟨pd, 1, none⟩) (Kd.V_far (p := ⟨pd, 0, none⟩) (Kd.V_mono ph.out (fun k_ hk => (⟨hk, hk.2⟩ : _ ∧ k_ ≠ pd))) (fun _ hk => hk.2) (.int .i64 ((rd_T26 pa x5_1).f0))) (fun _ hk => hk.2) (.string ((rd_T26 pa x5_1).f1))) (fun _ hk => hk.2) (.string ((rd_T26 pa x5_1).f2))) (fun _ hk => hk.2) (.string ((rd_T26 pa x5_1).f3))) (fun _ hk => hk.2) (.int .i64 ((rd_T26 pa x5_1).f4))) (fun _ hk => hk.2) (.string ((rd_T26 pa x5_1).f5))) (fun _ hk => hk.2) (.bool ((rd_T26 pa x5_1).f6))) (fun _ hk => hk.2) (.int .i64 ((rd_T26 pa x5_1).f7))) (fun _ hk => ⟨hk.1.1.1, ⟨hk.1.1.2.1, ⟨hk.1.1.2.2, hk.1.2⟩⟩⟩)⟩, ⟨by (with_reducible repeat (first | refine blk_drewN ?_ _ | refine blk_drew ?_ | refine blk_alloc ?_ _)); refine blk_far ?_ NB623_653.out _; (with_reducible repeat (first | refine blk_drewN ?_ _ | refine blk_drew ?_ | refine blk_alloc ?_ _)); refine blk_far ?_ NB623_653.out _; (with_reducible repeat (first | refine blk_drewN ?_ _ | refine blk_drew ?_ | refine blk_alloc ?_ _)); refine blk_far ?_ NB623_653.out _; (with_reducible repeat (first | refine blk_drewN ?_ _ | refine blk_drew ?_ | refine blk_alloc ?_ _)); refine blk_far ?_ NB623_653.out _; (with_reducible repeat (first | refine blk_drewN ?_ _ | refine blk_drew ?_ | refine blk_alloc ?_ _)); refine blk_far ?_ NB623_653.out _; (with_reducible repeat (first | refine blk_drewN ?_ _ | refine blk_drew ?_ | refine blk_alloc ?_ _)); refine blk_far ?_ NB623_653.out _; (with_reducible repeat (first | refine blk_drewN ?_ _ | refine blk_drew ?_ | refine blk_alloc ?_ _)); refine blk_far ?_ NB623_653.out _; (with_reducible repeat (first | refine blk_drewN ?_ _ | refine blk_drew ?_ | refine blk_alloc ?_ _)); refine blk_far ?_ NB623_653.out _; (with_reducible repeat (first | refine blk_drewN ?_ _ | refine blk_drew ?_ | refine blk_alloc ?_ _)); exact pc.out⟩, ⟨by (with_reducible repeat (first | refine blk_drewN ?_ _ | refine blk_drew ?_ | refine blk_alloc ?_ _)); refine blk_far ?_ NB649_653.out _; (with_reducible repeat (first | refine blk_drewN ?_ _ | refine blk_drew ?_ | refine blk_alloc ?_ _)); refine blk_far ?_ NB649_653.out _; (with_reducible repeat (first | refine blk_drewN ?_ _ | refine blk_drew ?_ | refine blk_alloc ?_ _)); refine blk_far ?_ NB649_653.out _; (with_reducible repeat (first | refine blk_drewN ?_ _ | refine blk_drew ?_ | refine blk_alloc ?_ _)); refine blk_far ?_ NB649_653.out _; (with_reducible repeat (first | refine blk_drewN ?_ _ | refine blk_drew ?_ | refine blk_alloc ?_ _)); refine blk_far ?_ NB649_653.out _; (with_reducible repeat (first | refine blk_drewN ?_ _ | refine blk_drew ?_ | refine blk_alloc ?_ _)); refine blk_far ?_ NB649_653.out _; (with_reducible repeat (first | refine blk_drewN ?_ _ | refine blk_drew ?_ | refine blk_alloc ?_ _)); refine blk_far ?_ NB649_653.out _; (with_reducible repeat (first | refine blk_drewN ?_ _ | refine blk_drew ?_ | refine blk_alloc ?_ _)); refine blk_far ?_ NB649_653.out _; (with_reducible repeat (first | refine blk_drewN ?_ _ | refine blk_drew ?_ | refine blk_alloc ?_ _)); exact pe.out⟩, ⟨by (with_reducible repeat (first | refine blk_drewN ?_ _ | refine blk_drew ?_ | refine blk_alloc ?_ _)); refine blk_put (cs := #[.int .i64 ((rd_T26 pa x5_1).f0), .string ((rd_T26 pa x5_1).f1), .string ((rd_T26 pa x5_1).f2), .string ((rd_T26 pa x5_1).f3), .int .i64 ((rd_T26 pa x5_1).f4), .string ((rd_T26 pa x5_1).f5), .bool ((rd_T26 pa x5_1).f6), .int .i64 0]) ?_ 7 _ rfl; (with_reducible repeat (first | refine blk_drewN ?_ _ | refine blk_drew ?_ | refine blk_alloc ?_ _)); refine blk_put (cs := #[.int .i64 ((rd_T26 pa x5_1).f0), .string ((rd_T26 pa x5_1).f1), .string ((rd_T26 pa x5_1).f2), .string ((rd_T26 pa x5_1).f3), .int .i64 ((rd_T26 pa x5_1).f4), .string ((rd_T26 pa x5_1).f5), .bool false, .int .i64 0]) ?_ 6 _ rfl; (with_reducible repeat (first | refine blk_drewN ?_ _ | refine blk_drew ?_ | refine blk_alloc ?_ _)); refine blk_put (cs := #[.int .i64 ((rd_T26 pa x5_1).f0), .string ((rd_T26 pa x5_1).f1), .string ((rd_T26 pa x5_1).f2), .string ((rd_T26 pa x5_1).f3), .int .i64 ((rd_T26 pa x5_1).f4), .string (⟨#[]⟩ : ByteArray), .bool false, .int .i64 0]) ?_ 5 _ rfl; (with_reducible repeat (first | refine blk_drewN ?_ _ | refine blk_drew ?_ | refine blk_alloc ?_ _)); refine blk_put (cs := #[.int .i64 ((rd_T26 pa x5_1).f0), .string ((rd_T26 pa x5_1).f1), .string ((rd_T26 pa x5_1).f2), .string ((rd_T26 pa x5_1).f3), .int .i64 0, .string (⟨#[]⟩ : ByteArray), .bool false, .int .i64 0]) ?_ 4 _ rfl; (with_reducible repeat (first | refine blk_drewN ?_ _ | refine blk_drew ?_ | refine blk_alloc ?_ _)); refine blk_put (cs := #[.int .i64 ((rd_T26 pa x5_1).f0), .string ((rd_T26 pa x5_1).f1), .string ((rd_T26 pa x5_1).f2), .string (⟨#[]⟩ : ByteArray), .int .i64 0, .string (⟨#[]⟩ : ByteArray), .bool false, .int .i64 0]) ?_ 3 _ rfl; (with_reducible repeat (first | refine blk_drewN ?_ _ | refine blk_drew ?_ | refine blk_alloc ?_ _)); refine blk_put (cs := #[.int .i64 ((rd_T26 pa x5_1).f0), .string ((rd_T26 pa x5_1).f1), .string (⟨#[]⟩ : ByteArray), .string (⟨#[]⟩ : ByteArray), .int .i64 0, .string (⟨#[]⟩ : ByteArray), .bool false, .int .i64 0]) ?_ 2 _ rfl; (with_reducible repeat (first | refine blk_drewN ?_ _ | refine blk_drew ?_ | refine blk_alloc ?_ _)); refine blk_put (cs := #[.int .i64 ((rd_T26 pa x5_1).f0), .string (⟨#[]⟩ : ByteArray), .string (⟨#[]⟩ : ByteArray), .string (⟨#[]⟩ : ByteArray), .int .i64 0, .string (⟨#[]⟩ : ByteArray), .bool false, .int .i64 0]) ?_ 1 _ rfl; (with_reducible repeat (first | refine blk_drewN ?_ _ | refine blk_drew ?_ | refine blk_alloc ?_ _)); refine blk_put (cs := #[.int .i64 0, .string (⟨#[]⟩ : ByteArray), .string (⟨#[]⟩ : ByteArray), .string (⟨#[]⟩ : ByteArray), .int .i64 0, .string (⟨#[]⟩ : ByteArray), .bool false, .int .i64 0]) ?_ 0 _ rfl; (with_reducible repeat (first | refine blk_drewN ?_ _ | refine blk_drew ?_ | refine blk_alloc ?_ _)); exact pb.out⟩, ⟨bel_ HB.out⟩⟩
       case round =>
        clear H';try clear c1
        try clear c2
        try clear p2
        try clear c3
        try clear c4
        try clear c4b0
        try clear c4b1
        try clear c6
        try clear p6
        try clear q6
        try clear hx6
        try clear c15
        try clear c16
        try clear c17
        try clear c20
        try clear c20b0
        try clear c21
        try clear c21b0
        try clear c22
        try clear c22b0
        try clear c23
        try clear c26
        try clear c27
        try clear c29
        try clear c32
        try clear c33
        try clear hcz13_0
        try clear hcz13_1
        try clear hcz13_2
        try clear hcz13_3
        try clear hcz13_4
        try clear hcz13_5
        try clear hcz13_6
        try clear hcz13_7
        try clear hcz13_8
        try clear hcz17_0
        try clear hcz17_1
        try clear hcz17_2
        try clear hcz17_3
        try clear hcz17_4
        try clear hcz24_0
        try clear hcz24_1
        try clear hcz24_2
        try clear hcz24_3
        try clear hcz24_4
        try clear hcz24_5
        try clear hcz24_6
        try clear hcz24_7
        try clear hcz24_8
        try clear hcz28_0
        try clear hcz28_1
        try clear hcz28_2
        try clear hcz28_3
        try clear hcz28_4
        try clear hcz28_5
        try clear hcz28_6
        try clear hcz28_7
        try clear hcz30_0
        try clear hcz30_1
        try clear hcz30_2
        try clear hcz30_3
        try clear hcz30_4
        try clear hcz30_5
        try clear hcz30_6
        try clear hcz30_7
        try clear hcz30_8
        try clear hcz34_0
        try clear hcz34_1
        try clear hcz34_2
        try clear hcz34_3
        try clear hcz34_4
        try clear hcz34_5
        try clear hcz34_6
        try clear hcz34_7
        try clear hcz6_0
        try clear hcz6_1
        try clear hcz6_2
        try clear hcz6_3
        try clear hcz6_4
        try clear hcz6_5
        try clear hcz6_6
        try clear hcz6_7
        try clear hcz6_8
        try clear hcz9_0
        try clear hcz9_1
        try clear hcz9_2
        try clear hcz9_3
        try clear hcz9_4
        try clear hcz9_5
        try clear hcz9_6
        try clear hcz9_7
        try clear hcz9_8
        try clear hfz13_0
        try clear hfz13_1
        try clear hfz13_2
        try clear hfz13_3
        try clear hfz13_4
        try clear hfz13_5
        try clear hfz13_6
        try clear hfz13_7
        try clear hfz13_8
        try clear hfz17_0
        try clear hfz17_1
        try clear hfz17_2
        try clear hfz17_3
        try clear hfz17_4
        try clear hfz24_0
        try clear hfz24_1
        try clear hfz24_2
        try clear hfz24_3
        try clear hfz24_4
        try clear hfz24_5
        try clear hfz24_6
        try clear hfz24_7
        try clear hfz24_8
        try clear hfz28_0
        try clear hfz28_1
        try clear hfz28_2
        try clear hfz28_3
        try clear hfz28_4
        try clear hfz28_5
        try clear hfz28_6
        try clear hfz28_7
        try clear hfz30_0
        try clear hfz30_1
        try clear hfz30_2
        try clear hfz30_3
        try clear hfz30_4
        try clear hfz30_5
        try clear hfz30_6
        try clear hfz30_7
        try clear hfz30_8
        try clear hfz34_0
        try clear hfz34_1
        try clear hfz34_2
        try clear hfz34_3
        try clear hfz34_4
        try clear hfz34_5
        try clear hfz34_6
        try clear hfz34_7
        try clear hfz6_0
        try clear hfz6_1
        try clear hfz6_2
        try clear hfz6_3
        try clear hfz6_4
        try clear hfz6_5
        try clear hfz6_6
        try clear hfz6_7
        try clear hfz6_8
        try clear hfz9_0
        try clear hfz9_1
        try clear hfz9_2
        try clear hfz9_3
        try clear hfz9_4
        try clear hfz9_5
        try clear hfz9_6
        try clear hfz9_7
        try clear hfz9_8
        try clear hx652_0
        try clear hx652_1
        try clear hx652_2
        try clear hx652_3
        try clear hx652_4
        try clear hx652_5
        try clear hx652_6
        try clear hx652_7
        try clear p2
        try clear p652
        try clear q652
        obtain ⟨x7_2, x8_2, rfl, rfl, HA, HK2, pf, pj, pg, pk, ph, pc, pe, pb, HB⟩ := hrel;cases gk with
        | zero => exact absurd HA.out (by simp [tolllaw07_FilterFields_g2.l1])
        | succ k2 =>
         have H := HA.out;clear HA;simp only [tolllaw07_FilterFields_g2.l1] at H;by_cases c35 : x8_2 < (pa.length : Int)
         ·rw [if_pos c35] at H
          have c35b0 : decide (x8_2 < (pa.length : Int)) = true := decide_eq_true c35;clear c35;by_cases c36 : x7_2 = true
          ·subst c36
           have H1 : (if x8_2 = x5_1 then (tolllaw07_FilterFields_g2.l1 k2 x5_1 true (wrap64 (x8_2 + 1)) pa ps pu pv pz pA pn pm pD pC pE pF pt pq ((rd_T26 pa x5_1).f0) ((rd_T26 pa x5_1).f1) ((rd_T26 pa x5_1).f2) ((rd_T26 pa x5_1).f3) ((rd_T26 pa x5_1).f4) ((rd_T26 pa x5_1).f5) ((rd_T26 pa x5_1).f6) ((rd_T26 pa x5_1).f7)) else (if 0 ≤ x8_2 then (if ((rd_T26 pa x8_2).f0) > 3 then (tolllaw07_FilterFields_g2.l1 k2 x5_1 true (wrap64 (x8_2 + 1)) pa ps pu pv pz pA pn pm pD pC pE pF pt pq ((rd_T26 pa x5_1).f0) ((rd_T26 pa x5_1).f1) ((rd_T26 pa x5_1).f2) ((rd_T26 pa x5_1).f3) ((rd_T26 pa x5_1).f4) ((rd_T26 pa x5_1).f5) ((rd_T26 pa x5_1).f6) ((rd_T26 pa x5_1).f7)) else ((tollref05_Same.f k2 ((rd_T26 pa x8_2).f1) ((rd_T26 pa x5_1).f1)).bind fun qj => (tolllaw07_FilterFields_g2.l1 k2 x5_1 (!qj) (wrap64 (x8_2 + 1)) pa ps pu pv pz pA pn pm pD pC pE pF pt pq ((rd_T26 pa x5_1).f0) ((rd_T26 pa x5_1).f1) ((rd_T26 pa x5_1).f2) ((rd_T26 pa x5_1).f3) ((rd_T26 pa x5_1).f4) ((rd_T26 pa x5_1).f5) ((rd_T26 pa x5_1).f6) ((rd_T26 pa x5_1).f7)))) else (none))) = some r := by rw [if_pos rfl] at H; exact H
           clear H;have H := H1;clear H1;by_cases c37 : x8_2 = x5_1
           ·rw [if_pos c37] at H
            have c37b0 : (x8_2 == x5_1) = true := beq_iff_eq.mpr c37;have c37b1 : (x8_2 != x5_1) = false := bne_eq_false_iff_eq.mpr c37;clear c37;have H' := Aside0.mk H;clear H;have hnb38 := NB623_649.out;have hnc38 := NB649_623.out;have hnb39 := NB623_653.out;have hnc39 := NB653_623.out;obtain ⟨hcz40_0, hcz40_1, hcz40_2, hcz40_3, hcz40_4, hcz40_5, hcz40_6, hcz40_7, hcz40_8, hfz40_0, hfz40_1, hfz40_2, hfz40_3, hfz40_4, hfz40_5, hfz40_6, hfz40_7, hfz40_8⟩ := blk9 pc.out;try go_wp2
            have n0_ := am_ (Kd.R_drew pf.out);have n1_ := am_ (Kd.R_drew pj.out);have n2_ := am_ (Kd.R_drew pg.out);have n3_ := am_ (Kd.V_drew pk.out);have n4_ := am_ (Kd.V_drew ph.out);have n5_ := am_ (blk_drew pc.out);have n6_ := am_ (blk_drew pe.out);have n7_ := am_ (blk_drew pb.out);have n8_ := am_ (below_drew1 HB.out);clear pf pj pg pk ph pc pe pb HB;have pf := n0_;have pj := n1_;have pg := n2_;have pk := n3_;have ph := n4_;have pc := n5_;have pe := n6_;have pb := n7_;have HB := n8_;clear n0_ n1_ n2_ n3_ n4_ n5_ n6_ n7_ n8_;refine start_ (n := 28) (S := fun w' => True) (ds := []) #[false, false, false, false, false, false, false, false, false, false, false, false, false, false, false, false, false, false, false, false, false, false, false, false, false, false, false, false] kr_ rfl rfl trivial (fun hHeld => ?_); refine with_tabW tolllaw07_FilterFields_g2.tab14 tolllaw07_FilterFields_g2.bits14 (fun HT_ HW_ => ?_);generalize wr.drew = w41 at pf pj pg pk ph pc pe pb HB hHeld ⊢;refine pure_ (i := 0) (N := some 48) (v := ?_) (a' := ?_) #[true, false, false, false, false, false, false, false, false, false, false, false, false, false, false, false, false, false, false, false, false, false, false, false, false, false, false, false] rfl rfl (any_of HT_.out kr_) (fun _ _ _ h => h) (Or.inl ⟨by rfl, ?_⟩) ?_ ?_;rotate_left
            ·intro w'
             go_simp
             with_reducible rfl
            rotate_left
            ·simp only [Act.put, sx_, s0_, s1_, i64_w, i32_w]
             rfl
            refine pure_ (i := 1) (N := some 49) (v := ?_) (a' := ?_) #[true, true, false, false, false, false, false, false, false, false, false, false, false, false, false, false, false, false, false, false, false, false, false, false, false, false, false, false] rfl rfl (any_of HT_.out kr_) (fun _ _ _ h => h) (Or.inl ⟨by rfl, ?_⟩) ?_ ?_;rotate_left
            ·intro w'
             go_simp
             with_reducible rfl
            rotate_left
            ·simp only [Act.put, sx_, s0_, s1_, i64_w, i32_w]
             rfl
            refine pure_ (i := 2) (N := some 50) (v := ?_) (a' := ?_) #[true, true, true, false, false, false, false, false, false, false, false, false, false, false, false, false, false, false, false, false, false, false, false, false, false, false, false, false] rfl rfl (any_of HT_.out kr_) (fun _ _ _ h => h) (Or.inl ⟨by rfl, ?_⟩) ?_ ?_;rotate_left
            ·intro w'
             go_simp
             with_reducible rfl
            rotate_left
            ·simp only [Act.put, sx_, s0_, s1_, i64_w, i32_w]
             rfl
            refine pure_ (i := 3) (N := some 51) (v := ?_) (a' := ?_) #[true, true, true, true, false, false, false, false, false, false, false, false, false, false, false, false, false, false, false, false, false, false, false, false, false, false, false, false] rfl rfl (any_of HT_.out kr_) (fun _ _ _ h => h) (Or.inl ⟨by rfl, ?_⟩) ?_ ?_;rotate_left
            ·intro w'
             go_simp
             with_reducible rfl
            rotate_left
            ·simp only [Act.put, sx_, s0_, s1_, i64_w, i32_w]
             rfl
            refine pure_ (i := 4) (N := some 52) (v := ?_) (a' := ?_) #[true, true, true, true, true, false, false, false, false, false, false, false, false, false, false, false, false, false, false, false, false, false, false, false, false, false, false, false] rfl rfl (any_of HT_.out kr_) (fun _ _ _ h => h) (Or.inl ⟨by rfl, ?_⟩) ?_ ?_;rotate_left
            ·intro w'
             go_simp
             with_reducible rfl
            rotate_left
            ·simp only [Act.put, sx_, s0_, s1_, i64_w, i32_w]
             rfl
            refine pure_ (i := 5) (N := some 53) (v := ?_) (a' := ?_) #[true, true, true, true, true, true, false, false, false, false, false, false, false, false, false, false, false, false, false, false, false, false, false, false, false, false, false, false] rfl rfl (any_of HT_.out kr_) (fun _ _ _ h => h) (Or.inl ⟨by rfl, ?_⟩) ?_ ?_;rotate_left
            ·intro w'
             go_simp
             with_reducible rfl
            rotate_left
            ·simp only [Act.put, sx_, s0_, s1_, i64_w, i32_w]
             rfl
            refine pure_ (i := 6) (N := some 54) (v := undef) (a' := ?_) #[true, true, true, true, true, true, true, false, false, false, false, false, false, false, false, false, false, false, false, false, false, false, false, false, false, false, false, false] rfl rfl (any_of HT_.out kr_) (fun _ _ _ h => h) (Or.inr ⟨by rfl, rfl⟩) ?_ ?_;rotate_left
            ·simp only [Act.put, sx_, s0_, s1_, i64_w, i32_w]
             rfl
            refine pure_ (i := 7) (N := some 55) (v := undef) (a' := ?_) #[true, true, true, true, true, true, true, true, false, false, false, false, false, false, false, false, false, false, false, false, false, false, false, false, false, false, false, false] rfl rfl (any_of HT_.out kr_) (fun _ _ _ h => h) (Or.inr ⟨by rfl, rfl⟩) ?_ ?_;rotate_left
            ·simp only [Act.put, sx_, s0_, s1_, i64_w, i32_w]
             rfl
            refine pure_ (i := 8) (N := some 56) (v := undef) (a' := ?_) #[true, true, true, true, true, true, true, true, true, false, false, false, false, false, false, false, false, false, false, false, false, false, false, false, false, false, false, false] rfl rfl (any_of HT_.out kr_) (fun _ _ _ h => h) (Or.inr ⟨by rfl, rfl⟩) ?_ ?_;rotate_left
            ·simp only [Act.put, sx_, s0_, s1_, i64_w, i32_w]
             rfl
            refine pure_ (i := 9) (N := some 57) (v := undef) (a' := ?_) #[true, true, true, true, true, true, true, true, true, true, false, false, false, false, false, false, false, false, false, false, false, false, false, false, false, false, false, false] rfl rfl (any_of HT_.out kr_) (fun _ _ _ h => h) (Or.inr ⟨by rfl, rfl⟩) ?_ ?_;rotate_left
            ·simp only [Act.put, sx_, s0_, s1_, i64_w, i32_w]
             rfl
            refine pure_ (i := 10) (N := some 58) (v := undef) (a' := ?_) #[true, true, true, true, true, true, true, true, true, true, true, false, false, false, false, false, false, false, false, false, false, false, false, false, false, false, false, false] rfl rfl (any_of HT_.out kr_) (fun _ _ _ h => h) (Or.inr ⟨by rfl, rfl⟩) ?_ ?_;rotate_left
            ·simp only [Act.put, sx_, s0_, s1_, i64_w, i32_w]
             rfl
            refine pure_ (i := 11) (N := some 59) (v := undef) (a' := ?_) #[true, true, true, true, true, true, true, true, true, true, true, true, false, false, false, false, false, false, false, false, false, false, false, false, false, false, false, false] rfl rfl (any_of HT_.out kr_) (fun _ _ _ h => h) (Or.inr ⟨by rfl, rfl⟩) ?_ ?_;rotate_left
            ·simp only [Act.put, sx_, s0_, s1_, i64_w, i32_w]
             rfl
            refine pure_ (i := 12) (N := some 60) (v := undef) (a' := ?_) #[true, true, true, true, true, true, true, true, true, true, true, true, true, false, false, false, false, false, false, false, false, false, false, false, false, false, false, false] rfl rfl (any_of HT_.out kr_) (fun _ _ _ h => h) (Or.inr ⟨by rfl, rfl⟩) ?_ ?_;rotate_left
            ·simp only [Act.put, sx_, s0_, s1_, i64_w, i32_w]
             rfl
            refine pure_ (i := 13) (N := some 61) (v := ?_) (a' := ?_) #[true, true, true, true, true, true, true, true, true, true, true, true, true, true, false, false, false, false, false, false, false, false, false, false, false, false, false, false] rfl rfl (any_of HT_.out kr_) (fun _ _ _ h => h) (Or.inl ⟨by rfl, ?_⟩) ?_ ?_;rotate_left
            ·intro w'
             go_simp
             with_reducible rfl
            rotate_left
            ·simp only [Act.put, sx_, s0_, s1_, i64_w, i32_w]
             rfl
            refine pure_ (i := 14) (N := some 62) (v := ?_) (a' := ?_) #[true, true, true, true, true, true, true, true, true, true, true, true, true, true, true, false, false, false, false, false, false, false, false, false, false, false, false, false] rfl rfl (any_of HT_.out kr_) (fun _ _ _ h => h) (Or.inl ⟨by rfl, ?_⟩) ?_ ?_;rotate_left
            ·intro w'
             go_simp
             with_reducible rfl
            rotate_left
            ·simp only [Act.put, sx_, s0_, s1_, i64_w, i32_w]
             rfl
            refine pure_ (i := 15) (N := some 63) (v := undef) (a' := ?_) #[true, true, true, true, true, true, true, true, true, true, true, true, true, true, true, true, false, false, false, false, false, false, false, false, false, false, false, false] rfl rfl (any_of HT_.out kr_) (fun _ _ _ h => h) (Or.inr ⟨by rfl, rfl⟩) ?_ ?_;rotate_left
            ·simp only [Act.put, sx_, s0_, s1_, i64_w, i32_w]
             rfl
            refine pure_ (i := 16) (N := some 64) (v := undef) (a' := ?_) #[true, true, true, true, true, true, true, true, true, true, true, true, true, true, true, true, true, false, false, false, false, false, false, false, false, false, false, false] rfl rfl (any_of HT_.out kr_) (fun _ _ _ h => h) (Or.inr ⟨by rfl, rfl⟩) ?_ ?_;rotate_left
            ·simp only [Act.put, sx_, s0_, s1_, i64_w, i32_w]
             rfl
            refine pure_ (i := 17) (N := some 65) (v := undef) (a' := ?_) #[true, true, true, true, true, true, true, true, true, true, true, true, true, true, true, true, true, true, false, false, false, false, false, false, false, false, false, false] rfl rfl (any_of HT_.out kr_) (fun _ _ _ h => h) (Or.inr ⟨by rfl, rfl⟩) ?_ ?_;rotate_left
            ·simp only [Act.put, sx_, s0_, s1_, i64_w, i32_w]
             rfl
            refine pure_ (i := 18) (N := some 66) (v := undef) (a' := ?_) #[true, true, true, true, true, true, true, true, true, true, true, true, true, true, true, true, true, true, true, false, false, false, false, false, false, false, false, false] rfl rfl (any_of HT_.out kr_) (fun _ _ _ h => h) (Or.inr ⟨by rfl, rfl⟩) ?_ ?_;rotate_left
            ·simp only [Act.put, sx_, s0_, s1_, i64_w, i32_w]
             rfl
            refine pure_ (i := 19) (N := some 67) (v := undef) (a' := ?_) #[true, true, true, true, true, true, true, true, true, true, true, true, true, true, true, true, true, true, true, true, false, false, false, false, false, false, false, false] rfl rfl (any_of HT_.out kr_) (fun _ _ _ h => h) (Or.inr ⟨by rfl, rfl⟩) ?_ ?_;rotate_left
            ·simp only [Act.put, sx_, s0_, s1_, i64_w, i32_w]
             rfl
            refine pure_ (i := 20) (N := some 68) (v := undef) (a' := ?_) #[true, true, true, true, true, true, true, true, true, true, true, true, true, true, true, true, true, true, true, true, true, false, false, false, false, false, false, false] rfl rfl (any_of HT_.out kr_) (fun _ _ _ h => h) (Or.inr ⟨by rfl, rfl⟩) ?_ ?_;rotate_left
            ·simp only [Act.put, sx_, s0_, s1_, i64_w, i32_w]
             rfl
            refine pure_ (i := 21) (N := some 69) (v := undef) (a' := ?_) #[true, true, true, true, true, true, true, true, true, true, true, true, true, true, true, true, true, true, true, true, true, true, false, false, false, false, false, false] rfl rfl (any_of HT_.out kr_) (fun _ _ _ h => h) (Or.inr ⟨by rfl, rfl⟩) ?_ ?_;rotate_left
            ·simp only [Act.put, sx_, s0_, s1_, i64_w, i32_w]
             rfl
            refine pure_ (i := 22) (N := some 70) (v := undef) (a' := ?_) #[true, true, true, true, true, true, true, true, true, true, true, true, true, true, true, true, true, true, true, true, true, true, true, false, false, false, false, false] rfl rfl (any_of HT_.out kr_) (fun _ _ _ h => h) (Or.inr ⟨by rfl, rfl⟩) ?_ ?_;rotate_left
            ·simp only [Act.put, sx_, s0_, s1_, i64_w, i32_w]
             rfl
            refine pure_ (i := 23) (N := some 71) (v := undef) (a' := ?_) #[true, true, true, true, true, true, true, true, true, true, true, true, true, true, true, true, true, true, true, true, true, true, true, true, false, false, false, false] rfl rfl (any_of HT_.out kr_) (fun _ _ _ h => h) (Or.inr ⟨by rfl, rfl⟩) ?_ ?_;rotate_left
            ·simp only [Act.put, sx_, s0_, s1_, i64_w, i32_w]
             rfl
            refine pure_ (i := 24) (N := some 72) (v := undef) (a' := ?_) #[true, true, true, true, true, true, true, true, true, true, true, true, true, true, true, true, true, true, true, true, true, true, true, true, true, false, false, false] rfl rfl (any_of HT_.out kr_) (fun _ _ _ h => h) (Or.inr ⟨by rfl, rfl⟩) ?_ ?_;rotate_left
            ·simp only [Act.put, sx_, s0_, s1_, i64_w, i32_w]
             rfl
            refine pure_ (i := 25) (N := some 73) (v := ?_) (a' := ?_) #[true, true, true, true, true, true, true, true, true, true, true, true, true, true, true, true, true, true, true, true, true, true, true, true, true, true, false, false] rfl rfl (any_of HT_.out kr_) (fun _ _ _ h => h) (Or.inl ⟨by rfl, ?_⟩) ?_ ?_;rotate_left
            ·intro w'
             go_simp
             with_reducible rfl
            rotate_left
            ·simp only [Act.put, sx_, s0_, s1_, i64_w, i32_w]
             rfl
            refine pure_ (i := 26) (N := some 74) (v := ?_) (a' := ?_) #[true, true, true, true, true, true, true, true, true, true, true, true, true, true, true, true, true, true, true, true, true, true, true, true, true, true, true, false] rfl rfl (any_of HT_.out kr_) (fun _ _ _ h => h) (Or.inl ⟨by rfl, ?_⟩) ?_ ?_;rotate_left
            ·intro w'
             go_simp
             with_reducible rfl
            rotate_left
            ·simp only [Act.put, sx_, s0_, s1_, i64_w, i32_w]
             rfl
            refine pure_ (i := 27) (N := some 7) (v := ?_) (a' := ?_) #[true, true, true, true, true, true, true, true, true, true, true, true, true, true, true, true, true, true, true, true, true, true, true, true, true, true, true, true] rfl rfl (any_of HT_.out kr_) (fun _ _ _ h => h) (Or.inl ⟨by rfl, ?_⟩) ?_ ?_;rotate_left
            ·intro w'
             go_simp
             with_reducible rfl
            rotate_left
            ·simp only [Act.put, sx_, s0_, s1_, i64_w, i32_w]
             rfl
            refine done_ (done_of HT_.out kr_) ?_;try go_wp2
            go_roundg k2
            case measure => have := HK1.out; have := HK2.out; omega
            case rel => exact ⟨(true), (wrap64 (x8_2 + 1)), sd_, sd_, H', ⟨by have := HK1.out; have := HK2.out; omega⟩, ⟨by (with_reducible repeat (first | apply Kd.R_alloc | apply Kd.R_drewN | apply Kd.R_drew)); exact pf.out⟩, ⟨by (with_reducible repeat (first | apply Kd.R_alloc | apply Kd.R_drewN | apply Kd.R_drew)); exact pj.out⟩, ⟨by (with_reducible repeat (first | apply Kd.R_alloc | apply Kd.R_drewN | apply Kd.R_drew)); exact pg.out⟩, ⟨by (with_reducible repeat (first | apply Kd.V_alloc | apply Kd.V_drewN | apply Kd.V_drew)); exact pk.out⟩, ⟨by (with_reducible repeat (first | apply Kd.V_alloc | apply Kd.V_drewN | apply Kd.V_drew)); exact ph.out⟩, ⟨by (with_reducible repeat (first | refine blk_drewN ?_ _ | refine blk_drew ?_ | refine blk_alloc ?_ _)); exact pc.out⟩, ⟨by (with_reducible repeat (first | refine blk_drewN ?_ _ | refine blk_drew ?_ | refine blk_alloc ?_ _)); exact pe.out⟩, ⟨by (with_reducible repeat (first | refine blk_drewN ?_ _ | refine blk_drew ?_ | refine blk_alloc ?_ _)); exact pb.out⟩, ⟨bel_ HB.out⟩⟩
           ·rw [if_neg c37] at H
            have c37b0 : (x8_2 == x5_1) = false := beq_eq_false_iff_ne.mpr c37;have c37b1 : (x8_2 != x5_1) = true := bne_iff_ne.mpr c37;by_cases c42 : 0 ≤ x8_2
            ·rw [if_pos c42] at H
             have c42b0 : decide (0 ≤ x8_2) = true := decide_eq_true c42;clear c42;by_cases c43 : ((rd_T26 pa x8_2).f0) > 3
             ·rw [if_pos c43] at H
              have c43b0 : decide (3 < ((rd_T26 pa x8_2).f0)) = true := decide_eq_true c43;clear c43;have H' := Aside0.mk H;clear H;have hnb44 := NB623_649.out;have hnc44 := NB649_623.out;have hnb45 := NB623_653.out;have hnc45 := NB653_623.out;obtain ⟨hcz46_0, hcz46_1, hcz46_2, hcz46_3, hcz46_4, hcz46_5, hcz46_6, hcz46_7, hcz46_8, hfz46_0, hfz46_1, hfz46_2, hfz46_3, hfz46_4, hfz46_5, hfz46_6, hfz46_7, hfz46_8⟩ := blk9 pc.out;try go_wp2
              have n0_ := am_ (Kd.R_drew pf.out);have n1_ := am_ (Kd.R_drew pj.out);have n2_ := am_ (Kd.R_drew pg.out);have n3_ := am_ (Kd.V_drew pk.out);have n4_ := am_ (Kd.V_drew ph.out);have n5_ := am_ (blk_drew pc.out);have n6_ := am_ (blk_drew pe.out);have n7_ := am_ (blk_drew pb.out);have n8_ := am_ (below_drew1 HB.out);clear pf pj pg pk ph pc pe pb HB;have pf := n0_;have pj := n1_;have pg := n2_;have pk := n3_;have ph := n4_;have pc := n5_;have pe := n6_;have pb := n7_;have HB := n8_;clear n0_ n1_ n2_ n3_ n4_ n5_ n6_ n7_ n8_;have p654 : 0 ≤ (x8_2 : Int) := of_decide_eq_true as_;have q654 : x8_2 < (pa.length : Int) := of_decide_eq_true as_;obtain ⟨qm, e654, hx654_0, hx654_1, hx654_2, hx654_3, hx654_4, hx654_5, hx654_6, hx654_7⟩ := at_T26 (Kd.R_reads' pf.out).2.2 x8_2 p654 q654;obtain rfl : pl = qm := (by injection e654);replace p654 := eq_true p654;replace q654 := eq_true q654;refine start_ (n := 28) (S := fun w' => w'.cell? ⟨pi, 0, none⟩ = some (.slice (some pl) pa.length pB) ∧ w'.cell? ⟨pi, 1, none⟩ = some (.int .i64 ps) ∧ w'.cell? ⟨pi, 2, none⟩ = some (.string pu) ∧ w'.cell? ⟨pi, 3, none⟩ = some (.string pv) ∧ w'.cell? ⟨pi, 4, none⟩ = some (.string pz) ∧ w'.cell? ⟨pi, 5, none⟩ = some (.string pA) ∧ w'.cell? ⟨pi, 6, none⟩ = some (.slice pI pn.length pJ) ∧ w'.cell? ⟨pi, 7, none⟩ = some (.slice pG pm.length pH) ∧ w'.cell? ⟨pi, 8, none⟩ = some (.bool pD) ∧ w'.cell? (pl.add ((x8_2).toNat * 8)) = some (.int .i64 ((rd_T26 pa x8_2).f0)) ∧ w'.cell? ⟨(pl.add ((x8_2).toNat * 8)).block, (pl.add ((x8_2).toNat * 8)).off + 1, none⟩ = some (.string ((rd_T26 pa x8_2).f1)) ∧ w'.cell? ⟨(pl.add ((x8_2).toNat * 8)).block, (pl.add ((x8_2).toNat * 8)).off + 2, none⟩ = some (.string ((rd_T26 pa x8_2).f2)) ∧ w'.cell? ⟨(pl.add ((x8_2).toNat * 8)).block, (pl.add ((x8_2).toNat * 8)).off + 3, none⟩ = some (.string ((rd_T26 pa x8_2).f3)) ∧ w'.cell? ⟨(pl.add ((x8_2).toNat * 8)).block, (pl.add ((x8_2).toNat * 8)).off + 4, none⟩ = some (.int .i64 ((rd_T26 pa x8_2).f4)) ∧ w'.cell? ⟨(pl.add ((x8_2).toNat * 8)).block, (pl.add ((x8_2).toNat * 8)).off + 5, none⟩ = some (.string ((rd_T26 pa x8_2).f5)) ∧ w'.cell? ⟨(pl.add ((x8_2).toNat * 8)).block, (pl.add ((x8_2).toNat * 8)).off + 6, none⟩ = some (.bool ((rd_T26 pa x8_2).f6)) ∧ w'.cell? ⟨(pl.add ((x8_2).toNat * 8)).block, (pl.add ((x8_2).toNat * 8)).off + 7, none⟩ = some (.int .i64 ((rd_T26 pa x8_2).f7))) (ds := []) #[false, false, false, false, false, false, false, false, false, false, false, false, false, false, false, false, false, false, false, false, false, false, false, false, false, false, false, false] kr_ rfl rfl ⟨(blk_cell pc.out 0).trans rfl, (blk_cell pc.out 1).trans rfl, (blk_cell pc.out 2).trans rfl, (blk_cell pc.out 3).trans rfl, (blk_cell pc.out 4).trans rfl, (blk_cell pc.out 5).trans rfl, (blk_cell pc.out 6).trans rfl, (blk_cell pc.out 7).trans rfl, (blk_cell pc.out 8).trans rfl, hx654_0, hx654_1, hx654_2, hx654_3, hx654_4, hx654_5, hx654_6, hx654_7⟩ (fun hHeld => ?_); refine with_tabW tolllaw07_FilterFields_g2.tab14 tolllaw07_FilterFields_g2.bits14 (fun HT_ HW_ => ?_);generalize wr.drew = w47 at pf pj pg pk ph pc pe pb HB hx654_0 hx654_1 hx654_2 hx654_3 hx654_4 hx654_5 hx654_6 hx654_7 hHeld ⊢;refine pure_ (i := 0) (N := some 48) (v := ?_) (a' := ?_) #[true, false, false, false, false, false, false, false, false, false, false, false, false, false, false, false, false, false, false, false, false, false, false, false, false, false, false, false] rfl rfl (any_of HT_.out kr_) (fun _ _ _ h => h) (Or.inl ⟨by rfl, ?_⟩) ?_ ?_;rotate_left
              ·intro w'
               go_simp
               with_reducible rfl
              rotate_left
              ·simp only [Act.put, sx_, s0_, s1_, i64_w, i32_w]
               rfl
              refine pure_ (i := 1) (N := some 49) (v := ?_) (a' := ?_) #[true, true, false, false, false, false, false, false, false, false, false, false, false, false, false, false, false, false, false, false, false, false, false, false, false, false, false, false] rfl rfl (any_of HT_.out kr_) (fun _ _ _ h => h) (Or.inl ⟨by rfl, ?_⟩) ?_ ?_;rotate_left
              ·intro w'
               go_simp
               with_reducible rfl
              rotate_left
              ·simp only [Act.put, sx_, s0_, s1_, i64_w, i32_w]
               rfl
              refine pure_ (i := 2) (N := some 50) (v := ?_) (a' := ?_) #[true, true, true, false, false, false, false, false, false, false, false, false, false, false, false, false, false, false, false, false, false, false, false, false, false, false, false, false] rfl rfl (any_of HT_.out kr_) (fun _ _ _ h => h) (Or.inl ⟨by rfl, ?_⟩) ?_ ?_;rotate_left
              ·intro w'
               go_simp
               with_reducible rfl
              rotate_left
              ·simp only [Act.put, sx_, s0_, s1_, i64_w, i32_w]
               rfl
              refine pure_ (i := 3) (N := some 51) (v := ?_) (a' := ?_) #[true, true, true, true, false, false, false, false, false, false, false, false, false, false, false, false, false, false, false, false, false, false, false, false, false, false, false, false] rfl rfl (any_of HT_.out kr_) (fun _ _ _ h => h) (Or.inl ⟨by rfl, ?_⟩) ?_ ?_;rotate_left
              ·intro w'
               go_simp
               with_reducible rfl
              rotate_left
              ·simp only [Act.put, sx_, s0_, s1_, i64_w, i32_w]
               rfl
              refine pure_ (i := 4) (N := some 52) (v := ?_) (a' := ?_) #[true, true, true, true, true, false, false, false, false, false, false, false, false, false, false, false, false, false, false, false, false, false, false, false, false, false, false, false] rfl rfl (any_of HT_.out kr_) (fun _ _ _ h => h) (Or.inl ⟨by rfl, ?_⟩) ?_ ?_;rotate_left
              ·intro w'
               go_simp
               with_reducible rfl
              rotate_left
              ·simp only [Act.put, sx_, s0_, s1_, i64_w, i32_w]
               rfl
              refine pure_ (i := 5) (N := some 53) (v := ?_) (a' := ?_) #[true, true, true, true, true, true, false, false, false, false, false, false, false, false, false, false, false, false, false, false, false, false, false, false, false, false, false, false] rfl rfl (any_of HT_.out kr_) (fun _ _ _ h => h) (Or.inl ⟨by rfl, ?_⟩) ?_ ?_;rotate_left
              ·intro w'
               go_simp
               with_reducible rfl
              rotate_left
              ·simp only [Act.put, sx_, s0_, s1_, i64_w, i32_w]
               rfl
              refine pure_ (i := 6) (N := some 54) (v := ?_) (a' := ?_) #[true, true, true, true, true, true, true, false, false, false, false, false, false, false, false, false, false, false, false, false, false, false, false, false, false, false, false, false] rfl rfl (any_of HT_.out kr_) (fun _ _ _ h => h) (Or.inl ⟨by rfl, ?_⟩) ?_ ?_;rotate_left
              ·intro w'
               go_simp
               with_reducible rfl
              rotate_left
              ·simp only [Act.put, sx_, s0_, s1_, i64_w, i32_w]
               rfl
              refine pure_ (i := 8) (N := some 56) (v := ?_) (a' := ?_) #[true, true, true, true, true, true, true, false, true, false, false, false, false, false, false, false, false, false, false, false, false, false, false, false, false, false, false, false] rfl rfl (any_of HT_.out kr_) (fun _ _ _ h => h) (Or.inl ⟨by rfl, ?_⟩) ?_ ?_;rotate_left
              ·intro w'
               go_simp
               with_reducible rfl
              rotate_left
              ·simp only [Act.put, sx_, s0_, s1_, i64_w, i32_w]
               rfl
              refine take_ (i := 7) (N := some 55) (v := ?_) (a' := ?_) #[true, true, true, true, true, true, true, true, true, false, false, false, false, false, false, false, false, false, false, false, false, false, false, false, false, false, false, false] rfl rfl (take_ofW HT_.out HW_.out kr_) (fun _ _ _ h => h) (Or.inl ⟨by rfl, ?_⟩) hHeld ?_ ?_;rotate_left
              ·rintro w' ⟨s0, s1, s2, s3, s4, s5, s6, s7, s8, s9, s10, s11, s12, s13, s14, s15, s16⟩
               go_simp
               with_reducible rfl
              rotate_left
              ·simp only [Act.put, sx_, s0_, s1_, i64_w, i32_w]
               rfl
              refine pure_ (i := 9) (N := some 57) (v := ?_) (a' := ?_) #[true, true, true, true, true, true, true, true, true, true, false, false, false, false, false, false, false, false, false, false, false, false, false, false, false, false, false, false] rfl rfl (any_of HT_.out kr_) (fun _ _ _ h => h) (Or.inl ⟨by rfl, ?_⟩) ?_ ?_;rotate_left
              ·intro w'
               go_simp
               with_reducible rfl
              rotate_left
              ·simp only [Act.put, sx_, s0_, s1_, i64_w, i32_w]
               rfl
              refine pure_ (i := 10) (N := some 58) (v := ?_) (a' := ?_) #[true, true, true, true, true, true, true, true, true, true, true, false, false, false, false, false, false, false, false, false, false, false, false, false, false, false, false, false] rfl rfl (any_of HT_.out kr_) (fun _ _ _ h => h) (Or.inl ⟨by rfl, ?_⟩) ?_ ?_;rotate_left
              ·intro w'
               go_simp
               with_reducible rfl
              rotate_left
              ·simp only [Act.put, sx_, s0_, s1_, i64_w, i32_w]
               rfl
              refine take_ (i := 11) (N := some 59) (v := ?_) (a' := ?_) #[true, true, true, true, true, true, true, true, true, true, true, true, false, false, false, false, false, false, false, false, false, false, false, false, false, false, false, false] rfl rfl (take_ofW HT_.out HW_.out kr_) (fun _ _ _ h => h) (Or.inl ⟨by rfl, ?_⟩) hHeld ?_ ?_;rotate_left
              ·rintro w' ⟨s0, s1, s2, s3, s4, s5, s6, s7, s8, s9, s10, s11, s12, s13, s14, s15, s16⟩
               go_simp
               with_reducible rfl
              rotate_left
              ·simp only [Act.put, sx_, s0_, s1_, i64_w, i32_w]
               rfl
              refine pure_ (i := 12) (N := some 60) (v := ?_) (a' := ?_) #[true, true, true, true, true, true, true, true, true, true, true, true, true, false, false, false, false, false, false, false, false, false, false, false, false, false, false, false] rfl rfl (any_of HT_.out kr_) (fun _ _ _ h => h) (Or.inl ⟨by rfl, ?_⟩) ?_ ?_;rotate_left
              ·intro w'
               go_simp
               with_reducible rfl
              rotate_left
              ·simp only [Act.put, sx_, s0_, s1_, i64_w, i32_w]
               rfl
              refine pure_ (i := 13) (N := some 61) (v := ?_) (a' := ?_) #[true, true, true, true, true, true, true, true, true, true, true, true, true, true, false, false, false, false, false, false, false, false, false, false, false, false, false, false] rfl rfl (any_of HT_.out kr_) (fun _ _ _ h => h) (Or.inl ⟨by rfl, ?_⟩) ?_ ?_;rotate_left
              ·intro w'
               go_simp
               with_reducible rfl
              rotate_left
              ·simp only [Act.put, sx_, s0_, s1_, i64_w, i32_w]
               rfl
              refine pure_ (i := 14) (N := some 62) (v := ?_) (a' := ?_) #[true, true, true, true, true, true, true, true, true, true, true, true, true, true, true, false, false, false, false, false, false, false, false, false, false, false, false, false] rfl rfl (any_of HT_.out kr_) (fun _ _ _ h => h) (Or.inl ⟨by rfl, ?_⟩) ?_ ?_;rotate_left
              ·intro w'
               go_simp
               with_reducible rfl
              rotate_left
              ·simp only [Act.put, sx_, s0_, s1_, i64_w, i32_w]
               rfl
              refine pure_ (i := 15) (N := some 63) (v := undef) (a' := ?_) #[true, true, true, true, true, true, true, true, true, true, true, true, true, true, true, true, false, false, false, false, false, false, false, false, false, false, false, false] rfl rfl (any_of HT_.out kr_) (fun _ _ _ h => h) (Or.inr ⟨by rfl, rfl⟩) ?_ ?_;rotate_left
              ·simp only [Act.put, sx_, s0_, s1_, i64_w, i32_w]
               rfl
              refine pure_ (i := 16) (N := some 64) (v := undef) (a' := ?_) #[true, true, true, true, true, true, true, true, true, true, true, true, true, true, true, true, true, false, false, false, false, false, false, false, false, false, false, false] rfl rfl (any_of HT_.out kr_) (fun _ _ _ h => h) (Or.inr ⟨by rfl, rfl⟩) ?_ ?_;rotate_left
              ·simp only [Act.put, sx_, s0_, s1_, i64_w, i32_w]
               rfl
              refine pure_ (i := 17) (N := some 65) (v := undef) (a' := ?_) #[true, true, true, true, true, true, true, true, true, true, true, true, true, true, true, true, true, true, false, false, false, false, false, false, false, false, false, false] rfl rfl (any_of HT_.out kr_) (fun _ _ _ h => h) (Or.inr ⟨by rfl, rfl⟩) ?_ ?_;rotate_left
              ·simp only [Act.put, sx_, s0_, s1_, i64_w, i32_w]
               rfl
              refine pure_ (i := 18) (N := some 66) (v := undef) (a' := ?_) #[true, true, true, true, true, true, true, true, true, true, true, true, true, true, true, true, true, true, true, false, false, false, false, false, false, false, false, false] rfl rfl (any_of HT_.out kr_) (fun _ _ _ h => h) (Or.inr ⟨by rfl, rfl⟩) ?_ ?_;rotate_left
              ·simp only [Act.put, sx_, s0_, s1_, i64_w, i32_w]
               rfl
              refine pure_ (i := 19) (N := some 67) (v := undef) (a' := ?_) #[true, true, true, true, true, true, true, true, true, true, true, true, true, true, true, true, true, true, true, true, false, false, false, false, false, false, false, false] rfl rfl (any_of HT_.out kr_) (fun _ _ _ h => h) (Or.inr ⟨by rfl, rfl⟩) ?_ ?_;rotate_left
              ·simp only [Act.put, sx_, s0_, s1_, i64_w, i32_w]
               rfl
              refine pure_ (i := 20) (N := some 68) (v := undef) (a' := ?_) #[true, true, true, true, true, true, true, true, true, true, true, true, true, true, true, true, true, true, true, true, true, false, false, false, false, false, false, false] rfl rfl (any_of HT_.out kr_) (fun _ _ _ h => h) (Or.inr ⟨by rfl, rfl⟩) ?_ ?_;rotate_left
              ·simp only [Act.put, sx_, s0_, s1_, i64_w, i32_w]
               rfl
              refine pure_ (i := 21) (N := some 69) (v := undef) (a' := ?_) #[true, true, true, true, true, true, true, true, true, true, true, true, true, true, true, true, true, true, true, true, true, true, false, false, false, false, false, false] rfl rfl (any_of HT_.out kr_) (fun _ _ _ h => h) (Or.inr ⟨by rfl, rfl⟩) ?_ ?_;rotate_left
              ·simp only [Act.put, sx_, s0_, s1_, i64_w, i32_w]
               rfl
              refine pure_ (i := 22) (N := some 70) (v := undef) (a' := ?_) #[true, true, true, true, true, true, true, true, true, true, true, true, true, true, true, true, true, true, true, true, true, true, true, false, false, false, false, false] rfl rfl (any_of HT_.out kr_) (fun _ _ _ h => h) (Or.inr ⟨by rfl, rfl⟩) ?_ ?_;rotate_left
              ·simp only [Act.put, sx_, s0_, s1_, i64_w, i32_w]
               rfl
              refine pure_ (i := 23) (N := some 71) (v := undef) (a' := ?_) #[true, true, true, true, true, true, true, true, true, true, true, true, true, true, true, true, true, true, true, true, true, true, true, true, false, false, false, false] rfl rfl (any_of HT_.out kr_) (fun _ _ _ h => h) (Or.inr ⟨by rfl, rfl⟩) ?_ ?_;rotate_left
              ·simp only [Act.put, sx_, s0_, s1_, i64_w, i32_w]
               rfl
              refine pure_ (i := 24) (N := some 72) (v := undef) (a' := ?_) #[true, true, true, true, true, true, true, true, true, true, true, true, true, true, true, true, true, true, true, true, true, true, true, true, true, false, false, false] rfl rfl (any_of HT_.out kr_) (fun _ _ _ h => h) (Or.inr ⟨by rfl, rfl⟩) ?_ ?_;rotate_left
              ·simp only [Act.put, sx_, s0_, s1_, i64_w, i32_w]
               rfl
              refine pure_ (i := 25) (N := some 73) (v := ?_) (a' := ?_) #[true, true, true, true, true, true, true, true, true, true, true, true, true, true, true, true, true, true, true, true, true, true, true, true, true, true, false, false] rfl rfl (any_of HT_.out kr_) (fun _ _ _ h => h) (Or.inl ⟨by rfl, ?_⟩) ?_ ?_;rotate_left
              ·intro w'
               go_simp
               with_reducible rfl
              rotate_left
              ·simp only [Act.put, sx_, s0_, s1_, i64_w, i32_w]
               rfl
              refine pure_ (i := 26) (N := some 74) (v := ?_) (a' := ?_) #[true, true, true, true, true, true, true, true, true, true, true, true, true, true, true, true, true, true, true, true, true, true, true, true, true, true, true, false] rfl rfl (any_of HT_.out kr_) (fun _ _ _ h => h) (Or.inl ⟨by rfl, ?_⟩) ?_ ?_;rotate_left
              ·intro w'
               go_simp
               with_reducible rfl
              rotate_left
              ·simp only [Act.put, sx_, s0_, s1_, i64_w, i32_w]
               rfl
              refine pure_ (i := 27) (N := some 7) (v := ?_) (a' := ?_) #[true, true, true, true, true, true, true, true, true, true, true, true, true, true, true, true, true, true, true, true, true, true, true, true, true, true, true, true] rfl rfl (any_of HT_.out kr_) (fun _ _ _ h => h) (Or.inl ⟨by rfl, ?_⟩) ?_ ?_;rotate_left
              ·intro w'
               go_simp
               with_reducible rfl
              rotate_left
              ·simp only [Act.put, sx_, s0_, s1_, i64_w, i32_w]
               rfl
              refine done_ (done_of HT_.out kr_) ?_;try go_wp2
              go_roundg k2
              case measure => have := HK1.out; have := HK2.out; omega
              case rel => exact ⟨(true), (wrap64 (x8_2 + 1)), sd_, sd_, H', ⟨by have := HK1.out; have := HK2.out; omega⟩, ⟨by (with_reducible repeat (first | apply Kd.R_alloc | apply Kd.R_drewN | apply Kd.R_drew)); exact pf.out⟩, ⟨by (with_reducible repeat (first | apply Kd.R_alloc | apply Kd.R_drewN | apply Kd.R_drew)); exact pj.out⟩, ⟨by (with_reducible repeat (first | apply Kd.R_alloc | apply Kd.R_drewN | apply Kd.R_drew)); exact pg.out⟩, ⟨by (with_reducible repeat (first | apply Kd.V_alloc | apply Kd.V_drewN | apply Kd.V_drew)); exact pk.out⟩, ⟨by (with_reducible repeat (first | apply Kd.V_alloc | apply Kd.V_drewN | apply Kd.V_drew)); exact ph.out⟩, ⟨by (with_reducible repeat (first | refine blk_drewN ?_ _ | refine blk_drew ?_ | refine blk_alloc ?_ _)); exact pc.out⟩, ⟨by (with_reducible repeat (first | refine blk_drewN ?_ _ | refine blk_drew ?_ | refine blk_alloc ?_ _)); exact pe.out⟩, ⟨by (with_reducible repeat (first | refine blk_drewN ?_ _ | refine blk_drew ?_ | refine blk_alloc ?_ _)); exact pb.out⟩, ⟨bel_ HB.out⟩⟩
             ·rw [if_neg c43] at H
              have c43b0 : decide (3 < ((rd_T26 pa x8_2).f0)) = false := decide_eq_false c43;clear c43;replace H := Option.bind_eq_some_iff.mp H;obtain ⟨qj, A480, H⟩ := H;replace H : (tolllaw07_FilterFields_g2.l1 k2 x5_1 (!qj) (wrap64 (x8_2 + 1)) pa ps pu pv pz pA pn pm pD pC pE pF pt pq ((rd_T26 pa x5_1).f0) ((rd_T26 pa x5_1).f1) ((rd_T26 pa x5_1).f2) ((rd_T26 pa x5_1).f3) ((rd_T26 pa x5_1).f4) ((rd_T26 pa x5_1).f5) ((rd_T26 pa x5_1).f6) ((rd_T26 pa x5_1).f7)) = some r := H;have A48 := Aside0.mk A480;clear A480;have H' := Aside0.mk H;clear H;have hnb49 := NB623_649.out;have hnc49 := NB649_623.out;have hnb50 := NB623_653.out;have hnc50 := NB653_623.out;obtain ⟨hcz51_0, hcz51_1, hcz51_2, hcz51_3, hcz51_4, hcz51_5, hcz51_6, hcz51_7, hcz51_8, hfz51_0, hfz51_1, hfz51_2, hfz51_3, hfz51_4, hfz51_5, hfz51_6, hfz51_7, hfz51_8⟩ := blk9 pc.out;try go_wp2
              have n0_ := am_ (Kd.R_drew pf.out);have n1_ := am_ (Kd.R_drew pj.out);have n2_ := am_ (Kd.R_drew pg.out);have n3_ := am_ (Kd.V_drew pk.out);have n4_ := am_ (Kd.V_drew ph.out);have n5_ := am_ (blk_drew pc.out);have n6_ := am_ (blk_drew pe.out);have n7_ := am_ (blk_drew pb.out);have n8_ := am_ (below_drew1 HB.out);clear pf pj pg pk ph pc pe pb HB;have pf := n0_;have pj := n1_;have pg := n2_;have pk := n3_;have ph := n4_;have pc := n5_;have pe := n6_;have pb := n7_;have HB := n8_;clear n0_ n1_ n2_ n3_ n4_ n5_ n6_ n7_ n8_;have p654 : 0 ≤ (x8_2 : Int) := of_decide_eq_true as_;have q654 : x8_2 < (pa.length : Int) := of_decide_eq_true as_;obtain ⟨qm, e654, hx654_0, hx654_1, hx654_2, hx654_3, hx654_4, hx654_5, hx654_6, hx654_7⟩ := at_T26 (Kd.R_reads' pf.out).2.2 x8_2 p654 q654;obtain rfl : pl = qm := (by injection e654);replace p654 := eq_true p654;replace q654 := eq_true q654;have p655 : 0 ≤ (x8_2 : Int) := of_decide_eq_true as_;have q655 : x8_2 < (pa.length : Int) := of_decide_eq_true as_;obtain ⟨qy, e655, hx655_0, hx655_1, hx655_2, hx655_3, hx655_4, hx655_5, hx655_6, hx655_7⟩ := at_T26 (Kd.R_reads' pf.out).2.2 x8_2 p655 q655;obtain rfl : pl = qy := (by injection e655);replace p655 := eq_true p655;replace q655 := eq_true q655;refine start_ (n := 28) (S := fun w' => w'.cell? ⟨pi, 0, none⟩ = some (.slice (some pl) pa.length pB) ∧ w'.cell? ⟨pi, 1, none⟩ = some (.int .i64 ps) ∧ w'.cell? ⟨pi, 2, none⟩ = some (.string pu) ∧ w'.cell? ⟨pi, 3, none⟩ = some (.string pv) ∧ w'.cell? ⟨pi, 4, none⟩ = some (.string pz) ∧ w'.cell? ⟨pi, 5, none⟩ = some (.string pA) ∧ w'.cell? ⟨pi, 6, none⟩ = some (.slice pI pn.length pJ) ∧ w'.cell? ⟨pi, 7, none⟩ = some (.slice pG pm.length pH) ∧ w'.cell? ⟨pi, 8, none⟩ = some (.bool pD) ∧ w'.cell? ⟨pd, 0, none⟩ = some (.int .i64 ((rd_T26 pa x5_1).f0)) ∧ w'.cell? ⟨pd, 1, none⟩ = some (.string ((rd_T26 pa x5_1).f1)) ∧ w'.cell? ⟨pd, 2, none⟩ = some (.string ((rd_T26 pa x5_1).f2)) ∧ w'.cell? ⟨pd, 3, none⟩ = some (.string ((rd_T26 pa x5_1).f3)) ∧ w'.cell? ⟨pd, 4, none⟩ = some (.int .i64 ((rd_T26 pa x5_1).f4)) ∧ w'.cell? ⟨pd, 5, none⟩ = some (.string ((rd_T26 pa x5_1).f5)) ∧ w'.cell? ⟨pd, 6, none⟩ = some (.bool ((rd_T26 pa x5_1).f6)) ∧ w'.cell? ⟨pd, 7, none⟩ = some (.int .i64 ((rd_T26 pa x5_1).f7)) ∧ w'.cell? (pl.add ((x8_2).toNat * 8)) = some (.int .i64 ((rd_T26 pa x8_2).f0)) ∧ w'.cell? ⟨(pl.add ((x8_2).toNat * 8)).block, (pl.add ((x8_2).toNat * 8)).off + 1, none⟩ = some (.string ((rd_T26 pa x8_2).f1)) ∧ w'.cell? ⟨(pl.add ((x8_2).toNat * 8)).block, (pl.add ((x8_2).toNat * 8)).off + 2, none⟩ = some (.string ((rd_T26 pa x8_2).f2)) ∧ w'.cell? ⟨(pl.add ((x8_2).toNat * 8)).block, (pl.add ((x8_2).toNat * 8)).off + 3, none⟩ = some (.string ((rd_T26 pa x8_2).f3)) ∧ w'.cell? ⟨(pl.add ((x8_2).toNat * 8)).block, (pl.add ((x8_2).toNat * 8)).off + 4, none⟩ = some (.int .i64 ((rd_T26 pa x8_2).f4)) ∧ w'.cell? ⟨(pl.add ((x8_2).toNat * 8)).block, (pl.add ((x8_2).toNat * 8)).off + 5, none⟩ = some (.string ((rd_T26 pa x8_2).f5)) ∧ w'.cell? ⟨(pl.add ((x8_2).toNat * 8)).block, (pl.add ((x8_2).toNat * 8)).off + 6, none⟩ = some (.bool ((rd_T26 pa x8_2).f6)) ∧ w'.cell? ⟨(pl.add ((x8_2).toNat * 8)).block, (pl.add ((x8_2).toNat * 8)).off + 7, none⟩ = some (.int .i64 ((rd_T26 pa x8_2).f7)) ∧ w'.cell? (pl.add ((x8_2).toNat * 8)) = some (.int .i64 ((rd_T26 pa x8_2).f0)) ∧ w'.cell? ⟨(pl.add ((x8_2).toNat * 8)).block, (pl.add ((x8_2).toNat * 8)).off + 1, none⟩ = some (.string ((rd_T26 pa x8_2).f1)) ∧ w'.cell? ⟨(pl.add ((x8_2).toNat * 8)).block, (pl.add ((x8_2).toNat * 8)).off + 2, none⟩ = some (.string ((rd_T26 pa x8_2).f2)) ∧ w'.cell? ⟨(pl.add ((x8_2).toNat * 8)).block, (pl.add ((x8_2).toNat * 8)).off + 3, none⟩ = some (.string ((rd_T26 pa x8_2).f3)) ∧ w'.cell? ⟨(pl.add ((x8_2).toNat * 8)).block, (pl.add ((x8_2).toNat * 8)).off + 4, none⟩ = some (.int .i64 ((rd_T26 pa x8_2).f4)) ∧ w'.cell? ⟨(pl.add ((x8_2).toNat * 8)).block, (pl.add ((x8_2).toNat * 8)).off + 5, none⟩ = some (.string ((rd_T26 pa x8_2).f5)) ∧ w'.cell? ⟨(pl.add ((x8_2).toNat * 8)).block, (pl.add ((x8_2).toNat * 8)).off + 6, none⟩ = some (.bool ((rd_T26 pa x8_2).f6)) ∧ w'.cell? ⟨(pl.add ((x8_2).toNat * 8)).block, (pl.add ((x8_2).toNat * 8)).off + 7, none⟩ = some (.int .i64 ((rd_T26 pa x8_2).f7))) (ds := []) #[false, false, false, false, false, false, false, false, false, false, false, false, false, false, false, false, false, false, false, false, false, false, false, false, false, false, false, false] kr_ rfl rfl ⟨(blk_cell pc.out 0).trans rfl, (blk_cell pc.out 1).trans rfl, (blk_cell pc.out 2).trans rfl, (blk_cell pc.out 3).trans rfl, (blk_cell pc.out 4).trans rfl, (blk_cell pc.out 5).trans rfl, (blk_cell pc.out 6).trans rfl, (blk_cell pc.out 7).trans rfl, (blk_cell pc.out 8).trans rfl, (blk_cell pb.out 0).trans rfl, (blk_cell pb.out 1).trans rfl, (blk_cell pb.out 2).trans rfl, (blk_cell pb.out 3).trans rfl, (blk_cell pb.out 4).trans rfl, (blk_cell pb.out 5).trans rfl, (blk_cell pb.out 6).trans rfl, (blk_cell pb.out 7).trans rfl, hx654_0, hx654_1, hx654_2, hx654_3, hx654_4, hx654_5, hx654_6, hx654_7, hx655_0, hx655_1, hx655_2, hx655_3, hx655_4, hx655_5, hx655_6, hx655_7⟩ (fun hHeld => ?_); refine with_tabW tolllaw07_FilterFields_g2.tab14 tolllaw07_FilterFields_g2.bits14 (fun HT_ HW_ => ?_);generalize wr.drew = w52 at pf pj pg pk ph pc pe pb HB hx654_0 hx654_1 hx654_2 hx654_3 hx654_4 hx654_5 hx654_6 hx654_7 hx655_0 hx655_1 hx655_2 hx655_3 hx655_4 hx655_5 hx655_6 hx655_7 hHeld ⊢;refine pure_ (i := 0) (N := some 48) (v := ?_) (a' := ?_) #[true, false, false, false, false, false, false, false, false, false, false, false, false, false, false, false, false, false, false, false, false, false, false, false, false, false, false, false] rfl rfl (any_of HT_.out kr_) (fun _ _ _ h => h) (Or.inl ⟨by rfl, ?_⟩) ?_ ?_;rotate_left
              ·intro w'
               go_simp
               with_reducible rfl
              rotate_left
              ·simp only [Act.put, sx_, s0_, s1_, i64_w, i32_w]
               rfl
              refine pure_ (i := 1) (N := some 49) (v := ?_) (a' := ?_) #[true, true, false, false, false, false, false, false, false, false, false, false, false, false, false, false, false, false, false, false, false, false, false, false, false, false, false, false] rfl rfl (any_of HT_.out kr_) (fun _ _ _ h => h) (Or.inl ⟨by rfl, ?_⟩) ?_ ?_;rotate_left
              ·intro w'
               go_simp
               with_reducible rfl
              rotate_left
              ·simp only [Act.put, sx_, s0_, s1_, i64_w, i32_w]
               rfl
              refine pure_ (i := 2) (N := some 50) (v := ?_) (a' := ?_) #[true, true, true, false, false, false, false, false, false, false, false, false, false, false, false, false, false, false, false, false, false, false, false, false, false, false, false, false] rfl rfl (any_of HT_.out kr_) (fun _ _ _ h => h) (Or.inl ⟨by rfl, ?_⟩) ?_ ?_;rotate_left
              ·intro w'
               go_simp
               with_reducible rfl
              rotate_left
              ·simp only [Act.put, sx_, s0_, s1_, i64_w, i32_w]
               rfl
              refine pure_ (i := 3) (N := some 51) (v := ?_) (a' := ?_) #[true, true, true, true, false, false, false, false, false, false, false, false, false, false, false, false, false, false, false, false, false, false, false, false, false, false, false, false] rfl rfl (any_of HT_.out kr_) (fun _ _ _ h => h) (Or.inl ⟨by rfl, ?_⟩) ?_ ?_;rotate_left
              ·intro w'
               go_simp
               with_reducible rfl
              rotate_left
              ·simp only [Act.put, sx_, s0_, s1_, i64_w, i32_w]
               rfl
              refine pure_ (i := 4) (N := some 52) (v := ?_) (a' := ?_) #[true, true, true, true, true, false, false, false, false, false, false, false, false, false, false, false, false, false, false, false, false, false, false, false, false, false, false, false] rfl rfl (any_of HT_.out kr_) (fun _ _ _ h => h) (Or.inl ⟨by rfl, ?_⟩) ?_ ?_;rotate_left
              ·intro w'
               go_simp
               with_reducible rfl
              rotate_left
              ·simp only [Act.put, sx_, s0_, s1_, i64_w, i32_w]
               rfl
              refine pure_ (i := 5) (N := some 53) (v := ?_) (a' := ?_) #[true, true, true, true, true, true, false, false, false, false, false, false, false, false, false, false, false, false, false, false, false, false, false, false, false, false, false, false] rfl rfl (any_of HT_.out kr_) (fun _ _ _ h => h) (Or.inl ⟨by rfl, ?_⟩) ?_ ?_;rotate_left
              ·intro w'
               go_simp
               with_reducible rfl
              rotate_left
              ·simp only [Act.put, sx_, s0_, s1_, i64_w, i32_w]
               rfl
              refine pure_ (i := 6) (N := some 54) (v := ?_) (a' := ?_) #[true, true, true, true, true, true, true, false, false, false, false, false, false, false, false, false, false, false, false, false, false, false, false, false, false, false, false, false] rfl rfl (any_of HT_.out kr_) (fun _ _ _ h => h) (Or.inl ⟨by rfl, ?_⟩) ?_ ?_;rotate_left
              ·intro w'
               go_simp
               with_reducible rfl
              rotate_left
              ·simp only [Act.put, sx_, s0_, s1_, i64_w, i32_w]
               rfl
              refine pure_ (i := 8) (N := some 56) (v := ?_) (a' := ?_) #[true, true, true, true, true, true, true, false, true, false, false, false, false, false, false, false, false, false, false, false, false, false, false, false, false, false, false, false] rfl rfl (any_of HT_.out kr_) (fun _ _ _ h => h) (Or.inl ⟨by rfl, ?_⟩) ?_ ?_;rotate_left
              ·intro w'
               go_simp
               with_reducible rfl
              rotate_left
              ·simp only [Act.put, sx_, s0_, s1_, i64_w, i32_w]
               rfl
              refine take_ (i := 7) (N := some 55) (v := ?_) (a' := ?_) #[true, true, true, true, true, true, true, true, true, false, false, false, false, false, false, false, false, false, false, false, false, false, false, false, false, false, false, false] rfl rfl (take_ofW HT_.out HW_.out kr_) (fun _ _ _ h => h) (Or.inl ⟨by rfl, ?_⟩) hHeld ?_ ?_;rotate_left
              ·rintro w' ⟨s0, s1, s2, s3, s4, s5, s6, s7, s8, s9, s10, s11, s12, s13, s14, s15, s16, s17, s18, s19, s20, s21, s22, s23, s24, s25, s26, s27, s28, s29, s30, s31, s32⟩
               go_simp
               with_reducible rfl
              rotate_left
              ·simp only [Act.put, sx_, s0_, s1_, i64_w, i32_w]
               rfl
              refine pure_ (i := 9) (N := some 57) (v := ?_) (a' := ?_) #[true, true, true, true, true, true, true, true, true, true, false, false, false, false, false, false, false, false, false, false, false, false, false, false, false, false, false, false] rfl rfl (any_of HT_.out kr_) (fun _ _ _ h => h) (Or.inl ⟨by rfl, ?_⟩) ?_ ?_;rotate_left
              ·intro w'
               go_simp
               with_reducible rfl
              rotate_left
              ·simp only [Act.put, sx_, s0_, s1_, i64_w, i32_w]
               rfl
              refine pure_ (i := 10) (N := some 58) (v := ?_) (a' := ?_) #[true, true, true, true, true, true, true, true, true, true, true, false, false, false, false, false, false, false, false, false, false, false, false, false, false, false, false, false] rfl rfl (any_of HT_.out kr_) (fun _ _ _ h => h) (Or.inl ⟨by rfl, ?_⟩) ?_ ?_;rotate_left
              ·intro w'
               go_simp
               with_reducible rfl
              rotate_left
              ·simp only [Act.put, sx_, s0_, s1_, i64_w, i32_w]
               rfl
              refine take_ (i := 11) (N := some 59) (v := ?_) (a' := ?_) #[true, true, true, true, true, true, true, true, true, true, true, true, false, false, false, false, false, false, false, false, false, false, false, false, false, false, false, false] rfl rfl (take_ofW HT_.out HW_.out kr_) (fun _ _ _ h => h) (Or.inl ⟨by rfl, ?_⟩) hHeld ?_ ?_;rotate_left
              ·rintro w' ⟨s0, s1, s2, s3, s4, s5, s6, s7, s8, s9, s10, s11, s12, s13, s14, s15, s16, s17, s18, s19, s20, s21, s22, s23, s24, s25, s26, s27, s28, s29, s30, s31, s32⟩
               go_simp
               with_reducible rfl
              rotate_left
              ·simp only [Act.put, sx_, s0_, s1_, i64_w, i32_w]
               rfl
              refine pure_ (i := 12) (N := some 60) (v := ?_) (a' := ?_) #[true, true, true, true, true, true, true, true, true, true, true, true, true, false, false, false, false, false, false, false, false, false, false, false, false, false, false, false] rfl rfl (any_of HT_.out kr_) (fun _ _ _ h => h) (Or.inl ⟨by rfl, ?_⟩) ?_ ?_;rotate_left
              ·intro w'
               go_simp
               with_reducible rfl
              rotate_left
              ·simp only [Act.put, sx_, s0_, s1_, i64_w, i32_w]
               rfl
              refine pure_ (i := 13) (N := some 61) (v := ?_) (a' := ?_) #[true, true, true, true, true, true, true, true, true, true, true, true, true, true, false, false, false, false, false, false, false, false, false, false, false, false, false, false] rfl rfl (any_of HT_.out kr_) (fun _ _ _ h => h) (Or.inl ⟨by rfl, ?_⟩) ?_ ?_;rotate_left
              ·intro w'
               go_simp
               with_reducible rfl
              rotate_left
              ·simp only [Act.put, sx_, s0_, s1_, i64_w, i32_w]
               rfl
              refine pure_ (i := 14) (N := some 62) (v := ?_) (a' := ?_) #[true, true, true, true, true, true, true, true, true, true, true, true, true, true, true, false, false, false, false, false, false, false, false, false, false, false, false, false] rfl rfl (any_of HT_.out kr_) (fun _ _ _ h => h) (Or.inl ⟨by rfl, ?_⟩) ?_ ?_;rotate_left
              ·intro w'
               go_simp
               with_reducible rfl
              rotate_left
              ·simp only [Act.put, sx_, s0_, s1_, i64_w, i32_w]
               rfl
              refine pure_ (i := 15) (N := some 63) (v := ?_) (a' := ?_) #[true, true, true, true, true, true, true, true, true, true, true, true, true, true, true, true, false, false, false, false, false, false, false, false, false, false, false, false] rfl rfl (any_of HT_.out kr_) (fun _ _ _ h => h) (Or.inl ⟨by rfl, ?_⟩) ?_ ?_;rotate_left
              ·intro w'
               go_simp
               with_reducible rfl
              rotate_left
              ·simp only [Act.put, sx_, s0_, s1_, i64_w, i32_w]
               rfl
              refine pure_ (i := 17) (N := some 65) (v := ?_) (a' := ?_) #[true, true, true, true, true, true, true, true, true, true, true, true, true, true, true, true, false, true, false, false, false, false, false, false, false, false, false, false] rfl rfl (any_of HT_.out kr_) (fun _ _ _ h => h) (Or.inl ⟨by rfl, ?_⟩) ?_ ?_;rotate_left
              ·intro w'
               go_simp
               with_reducible rfl
              rotate_left
              ·simp only [Act.put, sx_, s0_, s1_, i64_w, i32_w]
               rfl
              refine pure_ (i := 21) (N := some 69) (v := ?_) (a' := ?_) #[true, true, true, true, true, true, true, true, true, true, true, true, true, true, true, true, false, true, false, false, false, true, false, false, false, false, false, false] rfl rfl (any_of HT_.out kr_) (fun _ _ _ h => h) (Or.inl ⟨by rfl, ?_⟩) ?_ ?_;rotate_left
              ·intro w'
               go_simp
               with_reducible rfl
              rotate_left
              ·simp only [Act.put, sx_, s0_, s1_, i64_w, i32_w]
               rfl
              refine take_ (i := 16) (N := some 64) (v := ?_) (a' := ?_) #[true, true, true, true, true, true, true, true, true, true, true, true, true, true, true, true, true, true, false, false, false, true, false, false, false, false, false, false] rfl rfl (take_ofW HT_.out HW_.out kr_) (fun _ _ _ h => h) (Or.inl ⟨by rfl, ?_⟩) hHeld ?_ ?_;rotate_left
              ·rintro w' ⟨s0, s1, s2, s3, s4, s5, s6, s7, s8, s9, s10, s11, s12, s13, s14, s15, s16, s17, s18, s19, s20, s21, s22, s23, s24, s25, s26, s27, s28, s29, s30, s31, s32⟩
               go_simp
               with_reducible rfl
              rotate_left
              ·simp only [Act.put, sx_, s0_, s1_, i64_w, i32_w]
               rfl
              refine pure_ (i := 18) (N := some 66) (v := ?_) (a' := ?_) #[true, true, true, true, true, true, true, true, true, true, true, true, true, true, true, true, true, true, true, false, false, true, false, false, false, false, false, false] rfl rfl (any_of HT_.out kr_) (fun _ _ _ h => h) (Or.inl ⟨by rfl, ?_⟩) ?_ ?_;rotate_left
              ·intro w'
               go_simp
               with_reducible rfl
              rotate_left
              ·simp only [Act.put, sx_, s0_, s1_, i64_w, i32_w]
               rfl
              refine pure_ (i := 19) (N := some 67) (v := ?_) (a' := ?_) #[true, true, true, true, true, true, true, true, true, true, true, true, true, true, true, true, true, true, true, true, false, true, false, false, false, false, false, false] rfl rfl (any_of HT_.out kr_) (fun _ _ _ h => h) (Or.inl ⟨by rfl, ?_⟩) ?_ ?_;rotate_left
              ·intro w'
               go_simp
               with_reducible rfl
              rotate_left
              ·simp only [Act.put, sx_, s0_, s1_, i64_w, i32_w]
               rfl
              refine take_ (i := 20) (N := some 68) (v := ?_) (a' := ?_) #[true, true, true, true, true, true, true, true, true, true, true, true, true, true, true, true, true, true, true, true, true, true, false, false, false, false, false, false] rfl rfl (take_ofW HT_.out HW_.out kr_) (fun _ _ _ h => h) (Or.inl ⟨by rfl, ?_⟩) hHeld ?_ ?_;rotate_left
              ·rintro w' ⟨s0, s1, s2, s3, s4, s5, s6, s7, s8, s9, s10, s11, s12, s13, s14, s15, s16, s17, s18, s19, s20, s21, s22, s23, s24, s25, s26, s27, s28, s29, s30, s31, s32⟩
               go_simp
               with_reducible rfl
              rotate_left
              ·simp only [Act.put, sx_, s0_, s1_, i64_w, i32_w]
               rfl
              refine take_ (i := 22) (N := some 70) (v := ?_) (a' := ?_) #[true, true, true, true, true, true, true, true, true, true, true, true, true, true, true, true, true, true, true, true, true, true, true, false, false, false, false, false] rfl rfl (take_ofW HT_.out HW_.out kr_) (fun _ _ _ h => h) (Or.inl ⟨by rfl, ?_⟩) hHeld ?_ ?_;rotate_left
              ·rintro w' ⟨s0, s1, s2, s3, s4, s5, s6, s7, s8, s9, s10, s11, s12, s13, s14, s15, s16, s17, s18, s19, s20, s21, s22, s23, s24, s25, s26, s27, s28, s29, s30, s31, s32⟩
               go_simp
               with_reducible rfl
              rotate_left
              ·simp only [Act.put, sx_, s0_, s1_, i64_w, i32_w]
               rfl
              refine one_ (i := 23) (N := some 71) #[true, true, true, true, true, true, true, true, true, true, true, true, true, true, true, true, true, true, true, true, true, true, true, true, false, false, false, false] rfl rfl (one_of HT_.out kr_) (by decide) (fun K hK => ?_);refine goes_ Tryz.func23 kr_ rfl #[.string ((rd_T26 pa x8_2).f1), .string ((rd_T26 pa x5_1).f1)] (by rfl) rfl rfl rl_ ?_;with_reducible refine (tollref05_Same.calls k2 ((rd_T26 pa x8_2).f1) ((rd_T26 pa x5_1).f1) qj _ A48.out).mono ?_;rintro e w53 ⟨rfl, hb⟩;have HS17_ := (hb.cell (World.block_lt_of_cell? _ _ (hHeld.2.2.2.2.2.2.2.2.2.2.2.2.2.2.2.2.2.1))).trans (hHeld.2.2.2.2.2.2.2.2.2.2.2.2.2.2.2.2.2.1);have HS18_ := (hb.cell (World.block_lt_of_cell? _ _ (hHeld.2.2.2.2.2.2.2.2.2.2.2.2.2.2.2.2.2.2.1))).trans (hHeld.2.2.2.2.2.2.2.2.2.2.2.2.2.2.2.2.2.2.1);have HS19_ := (hb.cell (World.block_lt_of_cell? _ _ (hHeld.2.2.2.2.2.2.2.2.2.2.2.2.2.2.2.2.2.2.2.1))).trans (hHeld.2.2.2.2.2.2.2.2.2.2.2.2.2.2.2.2.2.2.2.1);have HS20_ := (hb.cell (World.block_lt_of_cell? _ _ (hHeld.2.2.2.2.2.2.2.2.2.2.2.2.2.2.2.2.2.2.2.2.1))).trans (hHeld.2.2.2.2.2.2.2.2.2.2.2.2.2.2.2.2.2.2.2.2.1);have HS21_ := (hb.cell (World.block_lt_of_cell? _ _ (hHeld.2.2.2.2.2.2.2.2.2.2.2.2.2.2.2.2.2.2.2.2.2.1))).trans (hHeld.2.2.2.2.2.2.2.2.2.2.2.2.2.2.2.2.2.2.2.2.2.1);have HS22_ := (hb.cell (World.block_lt_of_cell? _ _ (hHeld.2.2.2.2.2.2.2.2.2.2.2.2.2.2.2.2.2.2.2.2.2.2.1))).trans (hHeld.2.2.2.2.2.2.2.2.2.2.2.2.2.2.2.2.2.2.2.2.2.2.1);have HS23_ := (hb.cell (World.block_lt_of_cell? _ _ (hHeld.2.2.2.2.2.2.2.2.2.2.2.2.2.2.2.2.2.2.2.2.2.2.2.1))).trans (hHeld.2.2.2.2.2.2.2.2.2.2.2.2.2.2.2.2.2.2.2.2.2.2.2.1);have HS24_ := (hb.cell (World.block_lt_of_cell? _ _ (hHeld.2.2.2.2.2.2.2.2.2.2.2.2.2.2.2.2.2.2.2.2.2.2.2.2.1))).trans (hHeld.2.2.2.2.2.2.2.2.2.2.2.2.2.2.2.2.2.2.2.2.2.2.2.2.1);have HS25_ := (hb.cell (World.block_lt_of_cell? _ _ (hHeld.2.2.2.2.2.2.2.2.2.2.2.2.2.2.2.2.2.2.2.2.2.2.2.2.2.1))).trans (hHeld.2.2.2.2.2.2.2.2.2.2.2.2.2.2.2.2.2.2.2.2.2.2.2.2.2.1);have HS26_ := (hb.cell (World.block_lt_of_cell? _ _ (hHeld.2.2.2.2.2.2.2.2.2.2.2.2.2.2.2.2.2.2.2.2.2.2.2.2.2.2.1))).trans (hHeld.2.2.2.2.2.2.2.2.2.2.2.2.2.2.2.2.2.2.2.2.2.2.2.2.2.2.1);have HS27_ := (hb.cell (World.block_lt_of_cell? _ _ (hHeld.2.2.2.2.2.2.2.2.2.2.2.2.2.2.2.2.2.2.2.2.2.2.2.2.2.2.2.1))).trans (hHeld.2.2.2.2.2.2.2.2.2.2.2.2.2.2.2.2.2.2.2.2.2.2.2.2.2.2.2.1);have HS28_ := (hb.cell (World.block_lt_of_cell? _ _ (hHeld.2.2.2.2.2.2.2.2.2.2.2.2.2.2.2.2.2.2.2.2.2.2.2.2.2.2.2.2.1))).trans (hHeld.2.2.2.2.2.2.2.2.2.2.2.2.2.2.2.2.2.2.2.2.2.2.2.2.2.2.2.2.1);have HS29_ := (hb.cell (World.block_lt_of_cell? _ _ (hHeld.2.2.2.2.2.2.2.2.2.2.2.2.2.2.2.2.2.2.2.2.2.2.2.2.2.2.2.2.2.1))).trans (hHeld.2.2.2.2.2.2.2.2.2.2.2.2.2.2.2.2.2.2.2.2.2.2.2.2.2.2.2.2.2.1);have HS30_ := (hb.cell (World.block_lt_of_cell? _ _ (hHeld.2.2.2.2.2.2.2.2.2.2.2.2.2.2.2.2.2.2.2.2.2.2.2.2.2.2.2.2.2.2.1))).trans (hHeld.2.2.2.2.2.2.2.2.2.2.2.2.2.2.2.2.2.2.2.2.2.2.2.2.2.2.2.2.2.2.1);have HS31_ := (hb.cell (World.block_lt_of_cell? _ _ (hHeld.2.2.2.2.2.2.2.2.2.2.2.2.2.2.2.2.2.2.2.2.2.2.2.2.2.2.2.2.2.2.2.1))).trans (hHeld.2.2.2.2.2.2.2.2.2.2.2.2.2.2.2.2.2.2.2.2.2.2.2.2.2.2.2.2.2.2.2.1);have HS32_ := (hb.cell (World.block_lt_of_cell? _ _ (hHeld.2.2.2.2.2.2.2.2.2.2.2.2.2.2.2.2.2.2.2.2.2.2.2.2.2.2.2.2.2.2.2.2))).trans (hHeld.2.2.2.2.2.2.2.2.2.2.2.2.2.2.2.2.2.2.2.2.2.2.2.2.2.2.2.2.2.2.2.2);refine ⟨_, rfl, ?_⟩;have n0_ := am_ (Kd.R_below (R_ pf.out) hb);have n1_ := am_ (Kd.R_below (R_ pj.out) hb);have n2_ := am_ (Kd.R_below (R_ pg.out) hb);have n3_ := am_ (Kd.V_below (by (with_reducible repeat (first | apply Kd.V_alloc | apply Kd.V_drewN | apply Kd.V_drew)); exact pk.out) hb);have n4_ := am_ (Kd.V_below (by (with_reducible repeat (first | apply Kd.V_alloc | apply Kd.V_drewN | apply Kd.V_drew)); exact ph.out) hb);have n5_ := am_ (blk_below pc.out hb);have n6_ := am_ (blk_below pe.out hb);have n7_ := am_ (blk_below pb.out hb);have n8_ := am_ (below_step (bel_ HB.out) hb);clear pf pj pg pk ph pc pe pb HB;have pf := n0_;have pj := n1_;have pg := n2_;have pk := n3_;have ph := n4_;have pc := n5_;have pe := n6_;have pb := n7_;have HB := n8_;clear n0_ n1_ n2_ n3_ n4_ n5_ n6_ n7_ n8_;(try clear hb);(try clear hb2);(try clear hk);(try clear hi);refine hK.out _ _ ⟨(blk_cell pc.out 0).trans rfl, (blk_cell pc.out 1).trans rfl, (blk_cell pc.out 2).trans rfl, (blk_cell pc.out 3).trans rfl, (blk_cell pc.out 4).trans rfl, (blk_cell pc.out 5).trans rfl, (blk_cell pc.out 6).trans rfl, (blk_cell pc.out 7).trans rfl, (blk_cell pc.out 8).trans rfl, (blk_cell pb.out 0).trans rfl, (blk_cell pb.out 1).trans rfl, (blk_cell pb.out 2).trans rfl, (blk_cell pb.out 3).trans rfl, (blk_cell pb.out 4).trans rfl, (blk_cell pb.out 5).trans rfl, (blk_cell pb.out 6).trans rfl, (blk_cell pb.out 7).trans rfl, HS17_, HS18_, HS19_, HS20_, HS21_, HS22_, HS23_, HS24_, HS25_, HS26_, HS27_, HS28_, HS29_, HS30_, HS31_, HS32_⟩ (fun hHeld => ?_);clear hK K;refine norm_ (a' := ?_) ?_ ?_;rotate_left
              ·show Act.put _ (some 71) _ = _
               simp only [Act.put, sx_, s0_, s1_, i64_w, i32_w];rfl
              refine pure_ (i := 24) (N := some 72) (v := ?_) (a' := ?_) #[true, true, true, true, true, true, true, true, true, true, true, true, true, true, true, true, true, true, true, true, true, true, true, true, true, false, false, false] rfl rfl (any_of HT_.out kr_) (fun _ _ _ h => h) (Or.inl ⟨by rfl, ?_⟩) ?_ ?_;rotate_left
              ·intro w'
               go_simp
               with_reducible rfl
              rotate_left
              ·simp only [Act.put, sx_, s0_, s1_, i64_w, i32_w]
               rfl
              refine pure_ (i := 25) (N := some 73) (v := ?_) (a' := ?_) #[true, true, true, true, true, true, true, true, true, true, true, true, true, true, true, true, true, true, true, true, true, true, true, true, true, true, false, false] rfl rfl (any_of HT_.out kr_) (fun _ _ _ h => h) (Or.inl ⟨by rfl, ?_⟩) ?_ ?_;rotate_left
              ·intro w'
               go_simp
               with_reducible rfl
              rotate_left
              ·simp only [Act.put, sx_, s0_, s1_, i64_w, i32_w]
               rfl
              refine pure_ (i := 26) (N := some 74) (v := ?_) (a' := ?_) #[true, true, true, true, true, true, true, true, true, true, true, true, true, true, true, true, true, true, true, true, true, true, true, true, true, true, true, false] rfl rfl (any_of HT_.out kr_) (fun _ _ _ h => h) (Or.inl ⟨by rfl, ?_⟩) ?_ ?_;rotate_left
              ·intro w'
               go_simp
               with_reducible rfl
              rotate_left
              ·simp only [Act.put, sx_, s0_, s1_, i64_w, i32_w]
               rfl
              refine pure_ (i := 27) (N := some 7) (v := ?_) (a' := ?_) #[true, true, true, true, true, true, true, true, true, true, true, true, true, true, true, true, true, true, true, true, true, true, true, true, true, true, true, true] rfl rfl (any_of HT_.out kr_) (fun _ _ _ h => h) (Or.inl ⟨by rfl, ?_⟩) ?_ ?_;rotate_left
              ·intro w'
               go_simp
               with_reducible rfl
              rotate_left
              ·simp only [Act.put, sx_, s0_, s1_, i64_w, i32_w]
               rfl
              refine done_ (done_of HT_.out kr_) ?_;try go_wp2
              go_roundg k2
              case measure => have := HK1.out; have := HK2.out; omega
              case rel => exact ⟨(!qj), (wrap64 (x8_2 + 1)), sd_, sd_, H', ⟨by have := HK1.out; have := HK2.out; omega⟩, ⟨by (with_reducible repeat (first | apply Kd.R_alloc | apply Kd.R_drewN | apply Kd.R_drew)); exact pf.out⟩, ⟨by (with_reducible repeat (first | apply Kd.R_alloc | apply Kd.R_drewN | apply Kd.R_drew)); exact pj.out⟩, ⟨by (with_reducible repeat (first | apply Kd.R_alloc | apply Kd.R_drewN | apply Kd.R_drew)); exact pg.out⟩, ⟨by (with_reducible repeat (first | apply Kd.V_alloc | apply Kd.V_drewN | apply Kd.V_drew)); exact pk.out⟩, ⟨by (with_reducible repeat (first | apply Kd.V_alloc | apply Kd.V_drewN | apply Kd.V_drew)); exact ph.out⟩, ⟨by (with_reducible repeat (first | refine blk_drewN ?_ _ | refine blk_drew ?_ | refine blk_alloc ?_ _)); exact pc.out⟩, ⟨by (with_reducible repeat (first | refine blk_drewN ?_ _ | refine blk_drew ?_ | refine blk_alloc ?_ _)); exact pe.out⟩, ⟨by (with_reducible repeat (first | refine blk_drewN ?_ _ | refine blk_drew ?_ | refine blk_alloc ?_ _)); exact pb.out⟩, ⟨bel_ HB.out⟩⟩
            ·rw [if_neg c42] at H
             exact absurd H (by simp)
          ·replace c36 := Bool.eq_false_iff.mpr c36
           subst c36;have H1 : (tolllaw07_FilterFields_g2.l1 k2 x5_1 false (wrap64 (x8_2 + 1)) pa ps pu pv pz pA pn pm pD pC pE pF pt pq ((rd_T26 pa x5_1).f0) ((rd_T26 pa x5_1).f1) ((rd_T26 pa x5_1).f2) ((rd_T26 pa x5_1).f3) ((rd_T26 pa x5_1).f4) ((rd_T26 pa x5_1).f5) ((rd_T26 pa x5_1).f6) ((rd_T26 pa x5_1).f7)) = some r := by rw [if_neg (show ¬ (false = true) by decide)] at H; exact H
           clear H;have H := H1;clear H1;have H' := Aside0.mk H;clear H;have hnb54 := NB623_649.out;have hnc54 := NB649_623.out;have hnb55 := NB623_653.out;have hnc55 := NB653_623.out;obtain ⟨hcz56_0, hcz56_1, hcz56_2, hcz56_3, hcz56_4, hcz56_5, hcz56_6, hcz56_7, hcz56_8, hfz56_0, hfz56_1, hfz56_2, hfz56_3, hfz56_4, hfz56_5, hfz56_6, hfz56_7, hfz56_8⟩ := blk9 pc.out;try go_wp2
           have n0_ := am_ (Kd.R_drew pf.out);have n1_ := am_ (Kd.R_drew pj.out);have n2_ := am_ (Kd.R_drew pg.out);have n3_ := am_ (Kd.V_drew pk.out);have n4_ := am_ (Kd.V_drew ph.out);have n5_ := am_ (blk_drew pc.out);have n6_ := am_ (blk_drew pe.out);have n7_ := am_ (blk_drew pb.out);have n8_ := am_ (below_drew1 HB.out);clear pf pj pg pk ph pc pe pb HB;have pf := n0_;have pj := n1_;have pg := n2_;have pk := n3_;have ph := n4_;have pc := n5_;have pe := n6_;have pb := n7_;have HB := n8_;clear n0_ n1_ n2_ n3_ n4_ n5_ n6_ n7_ n8_;refine start_ (n := 28) (S := fun w' => True) (ds := []) #[false, false, false, false, false, false, false, false, false, false, false, false, false, false, false, false, false, false, false, false, false, false, false, false, false, false, false, false] kr_ rfl rfl trivial (fun hHeld => ?_); refine with_tabW tolllaw07_FilterFields_g2.tab14 tolllaw07_FilterFields_g2.bits14 (fun HT_ HW_ => ?_);generalize wr.drew = w57 at pf pj pg pk ph pc pe pb HB hHeld ⊢;refine pure_ (i := 0) (N := some 48) (v := ?_) (a' := ?_) #[true, false, false, false, false, false, false, false, false, false, false, false, false, false, false, false, false, false, false, false, false, false, false, false, false, false, false, false] rfl rfl (any_of HT_.out kr_) (fun _ _ _ h => h) (Or.inl ⟨by rfl, ?_⟩) ?_ ?_;rotate_left
           ·intro w'
            go_simp
            with_reducible rfl
           rotate_left
           ·simp only [Act.put, sx_, s0_, s1_, i64_w, i32_w]
            rfl
           refine pure_ (i := 1) (N := some 49) (v := ?_) (a' := ?_) #[true, true, false, false, false, false, false, false, false, false, false, false, false, false, false, false, false, false, false, false, false, false, false, false, false, false, false, false] rfl rfl (any_of HT_.out kr_) (fun _ _ _ h => h) (Or.inl ⟨by rfl, ?_⟩) ?_ ?_;rotate_left
           ·intro w'
            go_simp
            with_reducible rfl
           rotate_left
           ·simp only [Act.put, sx_, s0_, s1_, i64_w, i32_w]
            rfl
           refine pure_ (i := 2) (N := some 50) (v := undef) (a' := ?_) #[true, true, true, false, false, false, false, false, false, false, false, false, false, false, false, false, false, false, false, false, false, false, false, false, false, false, false, false] rfl rfl (any_of HT_.out kr_) (fun _ _ _ h => h) (Or.inr ⟨by rfl, rfl⟩) ?_ ?_;rotate_left
           ·simp only [Act.put, sx_, s0_, s1_, i64_w, i32_w]
            rfl
           refine pure_ (i := 3) (N := some 51) (v := undef) (a' := ?_) #[true, true, true, true, false, false, false, false, false, false, false, false, false, false, false, false, false, false, false, false, false, false, false, false, false, false, false, false] rfl rfl (any_of HT_.out kr_) (fun _ _ _ h => h) (Or.inr ⟨by rfl, rfl⟩) ?_ ?_;rotate_left
           ·simp only [Act.put, sx_, s0_, s1_, i64_w, i32_w]
            rfl
           refine pure_ (i := 4) (N := some 52) (v := undef) (a' := ?_) #[true, true, true, true, true, false, false, false, false, false, false, false, false, false, false, false, false, false, false, false, false, false, false, false, false, false, false, false] rfl rfl (any_of HT_.out kr_) (fun _ _ _ h => h) (Or.inr ⟨by rfl, rfl⟩) ?_ ?_;rotate_left
           ·simp only [Act.put, sx_, s0_, s1_, i64_w, i32_w]
            rfl
           refine pure_ (i := 5) (N := some 53) (v := undef) (a' := ?_) #[true, true, true, true, true, true, false, false, false, false, false, false, false, false, false, false, false, false, false, false, false, false, false, false, false, false, false, false] rfl rfl (any_of HT_.out kr_) (fun _ _ _ h => h) (Or.inr ⟨by rfl, rfl⟩) ?_ ?_;rotate_left
           ·simp only [Act.put, sx_, s0_, s1_, i64_w, i32_w]
            rfl
           refine pure_ (i := 6) (N := some 54) (v := undef) (a' := ?_) #[true, true, true, true, true, true, true, false, false, false, false, false, false, false, false, false, false, false, false, false, false, false, false, false, false, false, false, false] rfl rfl (any_of HT_.out kr_) (fun _ _ _ h => h) (Or.inr ⟨by rfl, rfl⟩) ?_ ?_;rotate_left
           ·simp only [Act.put, sx_, s0_, s1_, i64_w, i32_w]
            rfl
           refine pure_ (i := 7) (N := some 55) (v := undef) (a' := ?_) #[true, true, true, true, true, true, true, true, false, false, false, false, false, false, false, false, false, false, false, false, false, false, false, false, false, false, false, false] rfl rfl (any_of HT_.out kr_) (fun _ _ _ h => h) (Or.inr ⟨by rfl, rfl⟩) ?_ ?_;rotate_left
           ·simp only [Act.put, sx_, s0_, s1_, i64_w, i32_w]
            rfl
           refine pure_ (i := 8) (N := some 56) (v := undef) (a' := ?_) #[true, true, true, true, true, true, true, true, true, false, false, false, false, false, false, false, false, false, false, false, false, false, false, false, false, false, false, false] rfl rfl (any_of HT_.out kr_) (fun _ _ _ h => h) (Or.inr ⟨by rfl, rfl⟩) ?_ ?_;rotate_left
           ·simp only [Act.put, sx_, s0_, s1_, i64_w, i32_w]
            rfl
           refine pure_ (i := 9) (N := some 57) (v := undef) (a' := ?_) #[true, true, true, true, true, true, true, true, true, true, false, false, false, false, false, false, false, false, false, false, false, false, false, false, false, false, false, false] rfl rfl (any_of HT_.out kr_) (fun _ _ _ h => h) (Or.inr ⟨by rfl, rfl⟩) ?_ ?_;rotate_left
           ·simp only [Act.put, sx_, s0_, s1_, i64_w, i32_w]
            rfl
           refine pure_ (i := 10) (N := some 58) (v := undef) (a' := ?_) #[true, true, true, true, true, true, true, true, true, true, true, false, false, false, false, false, false, false, false, false, false, false, false, false, false, false, false, false] rfl rfl (any_of HT_.out kr_) (fun _ _ _ h => h) (Or.inr ⟨by rfl, rfl⟩) ?_ ?_;rotate_left
           ·simp only [Act.put, sx_, s0_, s1_, i64_w, i32_w]
            rfl
           refine pure_ (i := 11) (N := some 59) (v := undef) (a' := ?_) #[true, true, true, true, true, true, true, true, true, true, true, true, false, false, false, false, false, false, false, false, false, false, false, false, false, false, false, false] rfl rfl (any_of HT_.out kr_) (fun _ _ _ h => h) (Or.inr ⟨by rfl, rfl⟩) ?_ ?_;rotate_left
           ·simp only [Act.put, sx_, s0_, s1_, i64_w, i32_w]
            rfl
           refine pure_ (i := 12) (N := some 60) (v := undef) (a' := ?_) #[true, true, true, true, true, true, true, true, true, true, true, true, true, false, false, false, false, false, false, false, false, false, false, false, false, false, false, false] rfl rfl (any_of HT_.out kr_) (fun _ _ _ h => h) (Or.inr ⟨by rfl, rfl⟩) ?_ ?_;rotate_left
           ·simp only [Act.put, sx_, s0_, s1_, i64_w, i32_w]
            rfl
           refine pure_ (i := 13) (N := some 61) (v := undef) (a' := ?_) #[true, true, true, true, true, true, true, true, true, true, true, true, true, true, false, false, false, false, false, false, false, false, false, false, false, false, false, false] rfl rfl (any_of HT_.out kr_) (fun _ _ _ h => h) (Or.inr ⟨by rfl, rfl⟩) ?_ ?_;rotate_left
           ·simp only [Act.put, sx_, s0_, s1_, i64_w, i32_w]
            rfl
           refine pure_ (i := 14) (N := some 62) (v := undef) (a' := ?_) #[true, true, true, true, true, true, true, true, true, true, true, true, true, true, true, false, false, false, false, false, false, false, false, false, false, false, false, false] rfl rfl (any_of HT_.out kr_) (fun _ _ _ h => h) (Or.inr ⟨by rfl, rfl⟩) ?_ ?_;rotate_left
           ·simp only [Act.put, sx_, s0_, s1_, i64_w, i32_w]
            rfl
           refine pure_ (i := 15) (N := some 63) (v := undef) (a' := ?_) #[true, true, true, true, true, true, true, true, true, true, true, true, true, true, true, true, false, false, false, false, false, false, false, false, false, false, false, false] rfl rfl (any_of HT_.out kr_) (fun _ _ _ h => h) (Or.inr ⟨by rfl, rfl⟩) ?_ ?_;rotate_left
           ·simp only [Act.put, sx_, s0_, s1_, i64_w, i32_w]
            rfl
           refine pure_ (i := 16) (N := some 64) (v := undef) (a' := ?_) #[true, true, true, true, true, true, true, true, true, true, true, true, true, true, true, true, true, false, false, false, false, false, false, false, false, false, false, false] rfl rfl (any_of HT_.out kr_) (fun _ _ _ h => h) (Or.inr ⟨by rfl, rfl⟩) ?_ ?_;rotate_left
           ·simp only [Act.put, sx_, s0_, s1_, i64_w, i32_w]
            rfl
           refine pure_ (i := 17) (N := some 65) (v := undef) (a' := ?_) #[true, true, true, true, true, true, true, true, true, true, true, true, true, true, true, true, true, true, false, false, false, false, false, false, false, false, false, false] rfl rfl (any_of HT_.out kr_) (fun _ _ _ h => h) (Or.inr ⟨by rfl, rfl⟩) ?_ ?_;rotate_left
           ·simp only [Act.put, sx_, s0_, s1_, i64_w, i32_w]
            rfl
           refine pure_ (i := 18) (N := some 66) (v := undef) (a' := ?_) #[true, true, true, true, true, true, true, true, true, true, true, true, true, true, true, true, true, true, true, false, false, false, false, false, false, false, false, false] rfl rfl (any_of HT_.out kr_) (fun _ _ _ h => h) (Or.inr ⟨by rfl, rfl⟩) ?_ ?_;rotate_left
           ·simp only [Act.put, sx_, s0_, s1_, i64_w, i32_w]
            rfl
           refine pure_ (i := 19) (N := some 67) (v := undef) (a' := ?_) #[true, true, true, true, true, true, true, true, true, true, true, true, true, true, true, true, true, true, true, true, false, false, false, false, false, false, false, false] rfl rfl (any_of HT_.out kr_) (fun _ _ _ h => h) (Or.inr ⟨by rfl, rfl⟩) ?_ ?_;rotate_left
           ·simp only [Act.put, sx_, s0_, s1_, i64_w, i32_w]
            rfl
           refine pure_ (i := 20) (N := some 68) (v := undef) (a' := ?_) #[true, true, true, true, true, true, true, true, true, true, true, true, true, true, true, true, true, true, true, true, true, false, false, false, false, false, false, false] rfl rfl (any_of HT_.out kr_) (fun _ _ _ h => h) (Or.inr ⟨by rfl, rfl⟩) ?_ ?_;rotate_left
           ·simp only [Act.put, sx_, s0_, s1_, i64_w, i32_w]
            rfl
           refine pure_ (i := 21) (N := some 69) (v := undef) (a' := ?_) #[true, true, true, true, true, true, true, true, true, true, true, true, true, true, true, true, true, true, true, true, true, true, false, false, false, false, false, false] rfl rfl (any_of HT_.out kr_) (fun _ _ _ h => h) (Or.inr ⟨by rfl, rfl⟩) ?_ ?_;rotate_left
           ·simp only [Act.put, sx_, s0_, s1_, i64_w, i32_w]
            rfl
           refine pure_ (i := 22) (N := some 70) (v := undef) (a' := ?_) #[true, true, true, true, true, true, true, true, true, true, true, true, true, true, true, true, true, true, true, true, true, true, true, false, false, false, false, false] rfl rfl (any_of HT_.out kr_) (fun _ _ _ h => h) (Or.inr ⟨by rfl, rfl⟩) ?_ ?_;rotate_left
           ·simp only [Act.put, sx_, s0_, s1_, i64_w, i32_w]
            rfl
           refine pure_ (i := 23) (N := some 71) (v := undef) (a' := ?_) #[true, true, true, true, true, true, true, true, true, true, true, true, true, true, true, true, true, true, true, true, true, true, true, true, false, false, false, false] rfl rfl (any_of HT_.out kr_) (fun _ _ _ h => h) (Or.inr ⟨by rfl, rfl⟩) ?_ ?_;rotate_left
           ·simp only [Act.put, sx_, s0_, s1_, i64_w, i32_w]
            rfl
           refine pure_ (i := 24) (N := some 72) (v := undef) (a' := ?_) #[true, true, true, true, true, true, true, true, true, true, true, true, true, true, true, true, true, true, true, true, true, true, true, true, true, false, false, false] rfl rfl (any_of HT_.out kr_) (fun _ _ _ h => h) (Or.inr ⟨by rfl, rfl⟩) ?_ ?_;rotate_left
           ·simp only [Act.put, sx_, s0_, s1_, i64_w, i32_w]
            rfl
           refine pure_ (i := 25) (N := some 73) (v := undef) (a' := ?_) #[true, true, true, true, true, true, true, true, true, true, true, true, true, true, true, true, true, true, true, true, true, true, true, true, true, true, false, false] rfl rfl (any_of HT_.out kr_) (fun _ _ _ h => h) (Or.inr ⟨by rfl, rfl⟩) ?_ ?_;rotate_left
           ·simp only [Act.put, sx_, s0_, s1_, i64_w, i32_w]
            rfl
           refine pure_ (i := 26) (N := some 74) (v := ?_) (a' := ?_) #[true, true, true, true, true, true, true, true, true, true, true, true, true, true, true, true, true, true, true, true, true, true, true, true, true, true, true, false] rfl rfl (any_of HT_.out kr_) (fun _ _ _ h => h) (Or.inl ⟨by rfl, ?_⟩) ?_ ?_;rotate_left
           ·intro w'
            go_simp
            with_reducible rfl
           rotate_left
           ·simp only [Act.put, sx_, s0_, s1_, i64_w, i32_w]
            rfl
           refine pure_ (i := 27) (N := some 7) (v := ?_) (a' := ?_) #[true, true, true, true, true, true, true, true, true, true, true, true, true, true, true, true, true, true, true, true, true, true, true, true, true, true, true, true] rfl rfl (any_of HT_.out kr_) (fun _ _ _ h => h) (Or.inl ⟨by rfl, ?_⟩) ?_ ?_;rotate_left
           ·intro w'
            go_simp
            with_reducible rfl
           rotate_left
           ·simp only [Act.put, sx_, s0_, s1_, i64_w, i32_w]
            rfl
           refine done_ (done_of HT_.out kr_) ?_;try go_wp2
           go_roundg k2
           case measure => have := HK1.out; have := HK2.out; omega
           case rel => exact ⟨(false), (wrap64 (x8_2 + 1)), sd_, sd_, H', ⟨by have := HK1.out; have := HK2.out; omega⟩, ⟨by (with_reducible repeat (first | apply Kd.R_alloc | apply Kd.R_drewN | apply Kd.R_drew)); exact pf.out⟩, ⟨by (with_reducible repeat (first | apply Kd.R_alloc | apply Kd.R_drewN | apply Kd.R_drew)); exact pj.out⟩, ⟨by (with_reducible repeat (first | apply Kd.R_alloc | apply Kd.R_drewN | apply Kd.R_drew)); exact pg.out⟩, ⟨by (with_reducible repeat (first | apply Kd.V_alloc | apply Kd.V_drewN | apply Kd.V_drew)); exact pk.out⟩, ⟨by (with_reducible repeat (first | apply Kd.V_alloc | apply Kd.V_drewN | apply Kd.V_drew)); exact ph.out⟩, ⟨by (with_reducible repeat (first | refine blk_drewN ?_ _ | refine blk_drew ?_ | refine blk_alloc ?_ _)); exact pc.out⟩, ⟨by (with_reducible repeat (first | refine blk_drewN ?_ _ | refine blk_drew ?_ | refine blk_alloc ?_ _)); exact pe.out⟩, ⟨by (with_reducible repeat (first | refine blk_drewN ?_ _ | refine blk_drew ?_ | refine blk_alloc ?_ _)); exact pb.out⟩, ⟨bel_ HB.out⟩⟩
         ·rw [if_neg c35] at H
          have c35b0 : decide (x8_2 < (pa.length : Int)) = false := decide_eq_false c35;clear c35;replace H := Option.bind_eq_some_iff.mp H;obtain ⟨pp, A580, H⟩ := H;replace H : ((tollref05_All.f k2 pm ((rd_T26 pa x5_1).f1)).bind fun pr => (if x7_2 = true then (if ((rd_T26 pa x5_1).f0) = 1 then ((tollref01_Same.f k2 pp (([((rd_T26 pa x5_1).f2)] : List ByteArray))).bind fun p9 => (tolllaw07_FilterFields_g2.j2 k2 x5_1 pp pr (!p9) pa ps pu pv pz pA pn pm pD pC pE pF pt pq ((rd_T26 pa x5_1).f0) ((rd_T26 pa x5_1).f1) ((rd_T26 pa x5_1).f2) ((rd_T26 pa x5_1).f3) ((rd_T26 pa x5_1).f4) ((rd_T26 pa x5_1).f5) ((rd_T26 pa x5_1).f6) ((rd_T26 pa x5_1).f7))) else (tolllaw07_FilterFields_g2.j2 k2 x5_1 pp pr false pa ps pu pv pz pA pn pm pD pC pE pF pt pq ((rd_T26 pa x5_1).f0) ((rd_T26 pa x5_1).f1) ((rd_T26 pa x5_1).f2) ((rd_T26 pa x5_1).f3) ((rd_T26 pa x5_1).f4) ((rd_T26 pa x5_1).f5) ((rd_T26 pa x5_1).f6) ((rd_T26 pa x5_1).f7))) else (tolllaw07_FilterFields_g2.l0 k2 (wrap64 (x5_1 + 1)) pa ps pu pv pz pA pn pm pD pC pE pF pt pq))) = some r := H;have A58 := Aside0.mk A580;clear A580;replace H := Option.bind_eq_some_iff.mp H;obtain ⟨pr, A590, H⟩ := H;replace H : (if x7_2 = true then (if ((rd_T26 pa x5_1).f0) = 1 then ((tollref01_Same.f k2 pp (([((rd_T26 pa x5_1).f2)] : List ByteArray))).bind fun p9 => (tolllaw07_FilterFields_g2.j2 k2 x5_1 pp pr (!p9) pa ps pu pv pz pA pn pm pD pC pE pF pt pq ((rd_T26 pa x5_1).f0) ((rd_T26 pa x5_1).f1) ((rd_T26 pa x5_1).f2) ((rd_T26 pa x5_1).f3) ((rd_T26 pa x5_1).f4) ((rd_T26 pa x5_1).f5) ((rd_T26 pa x5_1).f6) ((rd_T26 pa x5_1).f7))) else (tolllaw07_FilterFields_g2.j2 k2 x5_1 pp pr false pa ps pu pv pz pA pn pm pD pC pE pF pt pq ((rd_T26 pa x5_1).f0) ((rd_T26 pa x5_1).f1) ((rd_T26 pa x5_1).f2) ((rd_T26 pa x5_1).f3) ((rd_T26 pa x5_1).f4) ((rd_T26 pa x5_1).f5) ((rd_T26 pa x5_1).f6) ((rd_T26 pa x5_1).f7))) else (tolllaw07_FilterFields_g2.l0 k2 (wrap64 (x5_1 + 1)) pa ps pu pv pz pA pn pm pD pC pE pF pt pq)) = some r := H;have A59 := Aside0.mk A590;clear A590;by_cases c60 : x7_2 = true
          ·subst c60
           have H1 : (if ((rd_T26 pa x5_1).f0) = 1 then ((tollref01_Same.f k2 pp (([((rd_T26 pa x5_1).f2)] : List ByteArray))).bind fun p9 => (tolllaw07_FilterFields_g2.j2 k2 x5_1 pp pr (!p9) pa ps pu pv pz pA pn pm pD pC pE pF pt pq ((rd_T26 pa x5_1).f0) ((rd_T26 pa x5_1).f1) ((rd_T26 pa x5_1).f2) ((rd_T26 pa x5_1).f3) ((rd_T26 pa x5_1).f4) ((rd_T26 pa x5_1).f5) ((rd_T26 pa x5_1).f6) ((rd_T26 pa x5_1).f7))) else (tolllaw07_FilterFields_g2.j2 k2 x5_1 pp pr false pa ps pu pv pz pA pn pm pD pC pE pF pt pq ((rd_T26 pa x5_1).f0) ((rd_T26 pa x5_1).f1) ((rd_T26 pa x5_1).f2) ((rd_T26 pa x5_1).f3) ((rd_T26 pa x5_1).f4) ((rd_T26 pa x5_1).f5) ((rd_T26 pa x5_1).f6) ((rd_T26 pa x5_1).f7))) = some r := by rw [if_pos rfl] at H; exact H
           clear H;have H := H1;clear H1;have HC61 := Aside0.mk H;clear H;have hnb62 := NB623_649.out;have hnc62 := NB649_623.out;have hnb63 := NB623_653.out;have hnc63 := NB653_623.out;obtain ⟨hcz64_0, hcz64_1, hcz64_2, hcz64_3, hcz64_4, hcz64_5, hcz64_6, hcz64_7, hcz64_8, hfz64_0, hfz64_1, hfz64_2, hfz64_3, hfz64_4, hfz64_5, hfz64_6, hfz64_7, hfz64_8⟩ := blk9 pc.out;try go_wp2
           have n0_ := am_ (Kd.R_drew pf.out);have n1_ := am_ (Kd.R_drew pj.out);have n2_ := am_ (Kd.R_drew pg.out);have n3_ := am_ (Kd.V_drew pk.out);have n4_ := am_ (Kd.V_drew ph.out);have n5_ := am_ (blk_drew pc.out);have n6_ := am_ (blk_drew pe.out);have n7_ := am_ (blk_drew pb.out);have n8_ := am_ (below_drew1 HB.out);clear pf pj pg pk ph pc pe pb HB;have pf := n0_;have pj := n1_;have pg := n2_;have pk := n3_;have ph := n4_;have pc := n5_;have pe := n6_;have pb := n7_;have HB := n8_;clear n0_ n1_ n2_ n3_ n4_ n5_ n6_ n7_ n8_;refine start_ (n := 13) (S := fun w' => w'.cell? ⟨po, 0, none⟩ = some (.string pC) ∧ w'.cell? ⟨po, 1, none⟩ = some (.string pE) ∧ w'.cell? ⟨po, 2, none⟩ = some (.string pF) ∧ w'.cell? ⟨po, 3, none⟩ = some (.slice pW pt.length pX) ∧ w'.cell? ⟨po, 4, none⟩ = some (.slice pT pq.length pU) ∧ w'.cell? ⟨pd, 0, none⟩ = some (.int .i64 ((rd_T26 pa x5_1).f0)) ∧ w'.cell? ⟨pd, 1, none⟩ = some (.string ((rd_T26 pa x5_1).f1)) ∧ w'.cell? ⟨pd, 2, none⟩ = some (.string ((rd_T26 pa x5_1).f2)) ∧ w'.cell? ⟨pd, 3, none⟩ = some (.string ((rd_T26 pa x5_1).f3)) ∧ w'.cell? ⟨pd, 4, none⟩ = some (.int .i64 ((rd_T26 pa x5_1).f4)) ∧ w'.cell? ⟨pd, 5, none⟩ = some (.string ((rd_T26 pa x5_1).f5)) ∧ w'.cell? ⟨pd, 6, none⟩ = some (.bool ((rd_T26 pa x5_1).f6)) ∧ w'.cell? ⟨pd, 7, none⟩ = some (.int .i64 ((rd_T26 pa x5_1).f7)) ∧ w'.cell? ⟨pi, 0, none⟩ = some (.slice (some pl) pa.length pB) ∧ w'.cell? ⟨pi, 1, none⟩ = some (.int .i64 ps) ∧ w'.cell? ⟨pi, 2, none⟩ = some (.string pu) ∧ w'.cell? ⟨pi, 3, none⟩ = some (.string pv) ∧ w'.cell? ⟨pi, 4, none⟩ = some (.string pz) ∧ w'.cell? ⟨pi, 5, none⟩ = some (.string pA) ∧ w'.cell? ⟨pi, 6, none⟩ = some (.slice pI pn.length pJ) ∧ w'.cell? ⟨pi, 7, none⟩ = some (.slice pG pm.length pH) ∧ w'.cell? ⟨pi, 8, none⟩ = some (.bool pD)) (ds := []) #[false, false, false, false, false, false, false, false, false, false, false, false, false] kr_ rfl rfl ⟨(blk_cell pe.out 0).trans rfl, (blk_cell pe.out 1).trans rfl, (blk_cell pe.out 2).trans rfl, (blk_cell pe.out 3).trans rfl, (blk_cell pe.out 4).trans rfl, (blk_cell pb.out 0).trans rfl, (blk_cell pb.out 1).trans rfl, (blk_cell pb.out 2).trans rfl, (blk_cell pb.out 3).trans rfl, (blk_cell pb.out 4).trans rfl, (blk_cell pb.out 5).trans rfl, (blk_cell pb.out 6).trans rfl, (blk_cell pb.out 7).trans rfl, (blk_cell pc.out 0).trans rfl, (blk_cell pc.out 1).trans rfl, (blk_cell pc.out 2).trans rfl, (blk_cell pc.out 3).trans rfl, (blk_cell pc.out 4).trans rfl, (blk_cell pc.out 5).trans rfl, (blk_cell pc.out 6).trans rfl, (blk_cell pc.out 7).trans rfl, (blk_cell pc.out 8).trans rfl⟩ (fun hHeld => ?_); refine with_tabW tolllaw07_FilterFields_g2.tab15 tolllaw07_FilterFields_g2.bits15 (fun HT_ HW_ => ?_);generalize wr.drew = w65 at pf pj pg pk ph pc pe pb HB hHeld ⊢;refine pure_ (i := 0) (N := some 75) (v := ?_) (a' := ?_) #[true, false, false, false, false, false, false, false, false, false, false, false, false] rfl rfl (any_of HT_.out kr_) (fun _ _ _ h => h) (Or.inl ⟨by rfl, ?_⟩) ?_ ?_;rotate_left
           ·intro w'
            go_simp
            with_reducible rfl
           rotate_left
           ·simp only [Act.put, sx_, s0_, s1_, i64_w, i32_w]
            rfl
           refine pure_ (i := 2) (N := some 77) (v := ?_) (a' := ?_) #[true, false, true, false, false, false, false, false, false, false, false, false, false] rfl rfl (any_of HT_.out kr_) (fun _ _ _ h => h) (Or.inl ⟨by rfl, ?_⟩) ?_ ?_;rotate_left
           ·intro w'
            go_simp
            with_reducible rfl
           rotate_left
           ·simp only [Act.put, sx_, s0_, s1_, i64_w, i32_w]
            rfl
           refine pure_ (i := 5) (N := some 80) (v := ?_) (a' := ?_) #[true, false, true, false, false, true, false, false, false, false, false, false, false] rfl rfl (any_of HT_.out kr_) (fun _ _ _ h => h) (Or.inl ⟨by rfl, ?_⟩) ?_ ?_;rotate_left
           ·intro w'
            go_simp
            with_reducible rfl
           rotate_left
           ·simp only [Act.put, sx_, s0_, s1_, i64_w, i32_w]
            rfl
           refine pure_ (i := 6) (N := some 81) (v := ?_) (a' := ?_) #[true, false, true, false, false, true, true, false, false, false, false, false, false] rfl rfl (any_of HT_.out kr_) (fun _ _ _ h => h) (Or.inl ⟨by rfl, ?_⟩) ?_ ?_;rotate_left
           ·intro w'
            go_simp
            with_reducible rfl
           rotate_left
           ·simp only [Act.put, sx_, s0_, s1_, i64_w, i32_w]
            rfl
           refine pure_ (i := 8) (N := some 83) (v := ?_) (a' := ?_) #[true, false, true, false, false, true, true, false, true, false, false, false, false] rfl rfl (any_of HT_.out kr_) (fun _ _ _ h => h) (Or.inl ⟨by rfl, ?_⟩) ?_ ?_;rotate_left
           ·intro w'
            go_simp
            with_reducible rfl
           rotate_left
           ·simp only [Act.put, sx_, s0_, s1_, i64_w, i32_w]
            rfl
           refine take_ (i := 1) (N := some 76) (v := ?_) (a' := ?_) #[true, true, true, false, false, true, true, false, true, false, false, false, false] rfl rfl (take_ofW HT_.out HW_.out kr_) (fun _ _ _ h => h) (Or.inl ⟨by rfl, ?_⟩) hHeld ?_ ?_;rotate_left
           ·rintro w' ⟨s0, s1, s2, s3, s4, s5, s6, s7, s8, s9, s10, s11, s12, s13, s14, s15, s16, s17, s18, s19, s20, s21⟩
            go_simp
            with_reducible rfl
           rotate_left
           ·simp only [Act.put, sx_, s0_, s1_, i64_w, i32_w]
            rfl
           refine take_ (i := 3) (N := some 78) (v := ?_) (a' := ?_) #[true, true, true, true, false, true, true, false, true, false, false, false, false] rfl rfl (take_ofW HT_.out HW_.out kr_) (fun _ _ _ h => h) (Or.inl ⟨by rfl, ?_⟩) hHeld ?_ ?_;rotate_left
           ·rintro w' ⟨s0, s1, s2, s3, s4, s5, s6, s7, s8, s9, s10, s11, s12, s13, s14, s15, s16, s17, s18, s19, s20, s21⟩
            go_simp
            with_reducible rfl
           rotate_left
           ·simp only [Act.put, sx_, s0_, s1_, i64_w, i32_w]
            rfl
           refine take_ (i := 7) (N := some 82) (v := ?_) (a' := ?_) #[true, true, true, true, false, true, true, true, true, false, false, false, false] rfl rfl (take_ofW HT_.out HW_.out kr_) (fun _ _ _ h => h) (Or.inl ⟨by rfl, ?_⟩) hHeld ?_ ?_;rotate_left
           ·rintro w' ⟨s0, s1, s2, s3, s4, s5, s6, s7, s8, s9, s10, s11, s12, s13, s14, s15, s16, s17, s18, s19, s20, s21⟩
            go_simp
            with_reducible rfl
           rotate_left
           ·simp only [Act.put, sx_, s0_, s1_, i64_w, i32_w]
            rfl
           refine take_ (i := 9) (N := some 84) (v := ?_) (a' := ?_) #[true, true, true, true, false, true, true, true, true, true, false, false, false] rfl rfl (take_ofW HT_.out HW_.out kr_) (fun _ _ _ h => h) (Or.inl ⟨by rfl, ?_⟩) hHeld ?_ ?_;rotate_left
           ·rintro w' ⟨s0, s1, s2, s3, s4, s5, s6, s7, s8, s9, s10, s11, s12, s13, s14, s15, s16, s17, s18, s19, s20, s21⟩
            go_simp
            with_reducible rfl
           rotate_left
           ·simp only [Act.put, sx_, s0_, s1_, i64_w, i32_w]
            rfl
           refine one_ (i := 4) (N := some 79) #[true, true, true, true, true, true, true, true, true, true, false, false, false] rfl rfl (one_of HT_.out kr_) (by decide) (fun K hK => ?_);refine goes_ Tryz.func26 kr_ rfl #[.slice pT pq.length pU, .string ((rd_T26 pa x5_1).f1)] (by rfl) rfl rfl rl_ ?_;with_reducible refine (tollref05_All.calls k2 _ _ pq ((rd_T26 pa x5_1).f1) pp _ ?side1 ?side2 A58.out).mono ?_;(case side1 => exact C_ (Kd.V_reads' ph.out).2.2);(case side2 => exact (Kd.V_reads' ph.out).2.1);rintro e w66 ⟨qb, rfl, ho0, hb⟩;refine ⟨_, rfl, ?_⟩;have n0_ := am_ (Kd.R_below (R_ pf.out) hb);have n1_ := am_ (Kd.R_below (R_ pj.out) hb);have n2_ := am_ (Kd.R_below (R_ pg.out) hb);have n3_ := am_ (Kd.V_elder' (by (with_reducible repeat (first | apply Kd.V_alloc | apply Kd.V_drewN | apply Kd.V_drew)); exact pk.out) (Kd.R_base ho0) hb);have n4_ := am_ (Kd.V_elder' (by (with_reducible repeat (first | apply Kd.V_alloc | apply Kd.V_drewN | apply Kd.V_drew)); exact ph.out) (Kd.R_base ho0) hb);have n5_ := am_ (Kd.R_lower ho0 (below_size (bel_ HB.out)));have n6_ := am_ (blk_below pc.out hb);have n7_ := am_ (blk_below pe.out hb);have n8_ := am_ (blk_below pb.out hb);have n9_ := am_ (below_step (bel_ HB.out) hb);clear pf pj pg pk ph pc pe pb HB;have pf := n0_;have pj := n1_;have pg := n2_;have pk := n3_;have ph := n4_;have pY := n5_;have pc := n6_;have pe := n7_;have pb := n8_;have HB := n9_;clear n0_ n1_ n2_ n3_ n4_ n5_ n6_ n7_ n8_ n9_;(try clear hb);(try clear hb2);(try clear hk);(try clear hi);(try clear ho0);refine hK.out _ _ ⟨(blk_cell pe.out 0).trans rfl, (blk_cell pe.out 1).trans rfl, (blk_cell pe.out 2).trans rfl, (blk_cell pe.out 3).trans rfl, (blk_cell pe.out 4).trans rfl, (blk_cell pb.out 0).trans rfl, (blk_cell pb.out 1).trans rfl, (blk_cell pb.out 2).trans rfl, (blk_cell pb.out 3).trans rfl, (blk_cell pb.out 4).trans rfl, (blk_cell pb.out 5).trans rfl, (blk_cell pb.out 6).trans rfl, (blk_cell pb.out 7).trans rfl, (blk_cell pc.out 0).trans rfl, (blk_cell pc.out 1).trans rfl, (blk_cell pc.out 2).trans rfl, (blk_cell pc.out 3).trans rfl, (blk_cell pc.out 4).trans rfl, (blk_cell pc.out 5).trans rfl, (blk_cell pc.out 6).trans rfl, (blk_cell pc.out 7).trans rfl, (blk_cell pc.out 8).trans rfl⟩ (fun hHeld => ?_);clear hK K;refine norm_ (a' := ?_) ?_ ?_;rotate_left
           ·show Act.put _ (some 79) _ = _
            simp only [Act.put, sx_, s0_, s1_, i64_w, i32_w];rfl
           refine one_ (i := 10) (N := some 85) #[true, true, true, true, true, true, true, true, true, true, true, false, false] rfl rfl (one_of HT_.out kr_) (by decide) (fun K hK => ?_);refine goes_ Tryz.func26 kr_ rfl #[.slice pG pm.length pH, .string ((rd_T26 pa x5_1).f1)] (by rfl) rfl rfl rl_ ?_;with_reducible refine (tollref05_All.calls k2 _ _ pm ((rd_T26 pa x5_1).f1) pr _ ?side1 ?side2 A59.out).mono ?_;(case side1 => exact C_ (Kd.R_reads' pg.out).2.2);(case side2 => exact (Kd.R_reads' pg.out).2.1);rintro e w67 ⟨qc, rfl, ho0, hb⟩;refine ⟨_, rfl, ?_⟩;have n0_ := am_ (Kd.R_below (R_ pf.out) hb);have n1_ := am_ (Kd.R_below (R_ pj.out) hb);have n2_ := am_ (Kd.R_below (R_ pg.out) hb);have n3_ := am_ (Kd.V_elder' (by (with_reducible repeat (first | apply Kd.V_alloc | apply Kd.V_drewN | apply Kd.V_drew)); exact pk.out) (Kd.R_base ho0) hb);have n4_ := am_ (Kd.V_elder' (by (with_reducible repeat (first | apply Kd.V_alloc | apply Kd.V_drewN | apply Kd.V_drew)); exact ph.out) (Kd.R_base ho0) hb);have n5_ := am_ (Kd.R_elder' (R_ pY.out) (Kd.R_base ho0) hb);have n6_ := am_ (Kd.R_lower (Kd.R_new' ho0 (Kd.R_lt (R_ pY.out))) (below_size (bel_ HB.out)));have n7_ := am_ (blk_below pc.out hb);have n8_ := am_ (blk_below pe.out hb);have n9_ := am_ (blk_below pb.out hb);have n10_ := am_ (below_step (bel_ HB.out) hb);clear pf pj pg pk ph pY pc pe pb HB;have pf := n0_;have pj := n1_;have pg := n2_;have pk := n3_;have ph := n4_;have pY := n5_;have qe := n6_;have pc := n7_;have pe := n8_;have pb := n9_;have HB := n10_;clear n0_ n1_ n2_ n3_ n4_ n5_ n6_ n7_ n8_ n9_ n10_;(try clear hb);(try clear hb2);(try clear hk);(try clear hi);(try clear ho0);refine hK.out _ _ ⟨(blk_cell pe.out 0).trans rfl, (blk_cell pe.out 1).trans rfl, (blk_cell pe.out 2).trans rfl, (blk_cell pe.out 3).trans rfl, (blk_cell pe.out 4).trans rfl, (blk_cell pb.out 0).trans rfl, (blk_cell pb.out 1).trans rfl, (blk_cell pb.out 2).trans rfl, (blk_cell pb.out 3).trans rfl, (blk_cell pb.out 4).trans rfl, (blk_cell pb.out 5).trans rfl, (blk_cell pb.out 6).trans rfl, (blk_cell pb.out 7).trans rfl, (blk_cell pc.out 0).trans rfl, (blk_cell pc.out 1).trans rfl, (blk_cell pc.out 2).trans rfl, (blk_cell pc.out 3).trans rfl, (blk_cell pc.out 4).trans rfl, (blk_cell pc.out 5).trans rfl, (blk_cell pc.out 6).trans rfl, (blk_cell pc.out 7).trans rfl, (blk_cell pc.out 8).trans rfl⟩ (fun hHeld => ?_);clear hK K;refine norm_ (a' := ?_) ?_ ?_;rotate_left
           ·show Act.put _ (some 85) _ = _
            simp only [Act.put, sx_, s0_, s1_, i64_w, i32_w];rfl
           refine pure_ (i := 11) (N := some 9) (v := ?_) (a' := ?_) #[true, true, true, true, true, true, true, true, true, true, true, true, false] rfl rfl (any_of HT_.out kr_) (fun _ _ _ h => h) (Or.inl ⟨by rfl, ?_⟩) ?_ ?_;rotate_left
           ·intro w'
            go_simp
            with_reducible rfl
           rotate_left
           ·simp only [Act.put, sx_, s0_, s1_, i64_w, i32_w]
            rfl
           refine pure_ (i := 12) (N := some 10) (v := ?_) (a' := ?_) #[true, true, true, true, true, true, true, true, true, true, true, true, true] rfl rfl (any_of HT_.out kr_) (fun _ _ _ h => h) (Or.inl ⟨by rfl, ?_⟩) ?_ ?_;rotate_left
           ·intro w'
            go_simp
            with_reducible rfl
           rotate_left
           ·simp only [Act.put, sx_, s0_, s1_, i64_w, i32_w]
            rfl
           refine done_ (done_of HT_.out kr_) ?_;go_upto_region 17 with (fail)
           go_cut [89] (fun qz wc => ∃ (kq : Nat) (x89_60 : Bool), qz = .bool x89_60 ∧ Aside0 (tolllaw07_FilterFields_g2.j2 kq x5_1 pp pr x89_60 pa ps pu pv pz pA pn pm pD pC pE pF pt pq ((rd_T26 pa x5_1).f0) ((rd_T26 pa x5_1).f1) ((rd_T26 pa x5_1).f2) ((rd_T26 pa x5_1).f3) ((rd_T26 pa x5_1).f4) ((rd_T26 pa x5_1).f5) ((rd_T26 pa x5_1).f6) ((rd_T26 pa x5_1).f7) = some r) ∧ Aside0 (kq ≤ k2) ∧ Aside0 (Kd.R Kd.string 9 wc w.heap.size (fun k_ => some k_ ≠ (qc : Value).ownBlock) qb pp) ∧ Aside0 (Kd.R Kd.string 9 wc w.heap.size (fun k_ => some k_ ≠ (qb : Value).ownBlock) qc pr) ∧ Aside0 (Kd.R k26 26 wc w.heap.size (fun k_ => k_ ≠ pd) (.slice (some pl) pa.length pB) pa) ∧ Aside0 (Kd.R k59 59 wc w.heap.size (fun k_ => some k_ ≠ ((.slice pG pm.length pH) : Value).ownBlock) (.slice pI pn.length pJ) pn) ∧ Aside0 (Kd.R k59 59 wc w.heap.size (fun k_ => some k_ ≠ ((.slice pI pn.length pJ) : Value).ownBlock) (.slice pG pm.length pH) pm) ∧ Aside0 (Kd.V k59 59 wc w.heap.size (fun k_ => some k_ ≠ (qb : Value).ownBlock ∧ some k_ ≠ (qc : Value).ownBlock ∧ some k_ ≠ ((.slice (some pl) pa.length pB) : Value).ownBlock ∧ k_ ≠ pi ∧ k_ ≠ po ∧ k_ ≠ pd) (.slice pW pt.length pX) pt) ∧ Aside0 (Kd.V k59 59 wc w.heap.size (fun k_ => some k_ ≠ (qb : Value).ownBlock ∧ some k_ ≠ (qc : Value).ownBlock ∧ some k_ ≠ ((.slice (some pl) pa.length pB) : Value).ownBlock ∧ k_ ≠ pi ∧ k_ ≠ po ∧ k_ ≠ pd) (.slice pT pq.length pU) pq) ∧ Aside0 (wc.heap[pi]? = some (.cells #[(.slice (some pl) pa.length pB), .int .i64 ps, .string pu, .string pv, .string pz, .string pA, (.slice pI pn.length pJ), (.slice pG pm.length pH), .bool pD] 35 (0, 0))) ∧ Aside0 (wc.heap[po]? = some (.cells #[.string pC, .string pE, .string pF, (.slice pW pt.length pX), (.slice pT pq.length pU)] 33 (0, 0))) ∧ Aside0 (wc.heap[pd]? = some (.cells #[.int .i64 ((rd_T26 pa x5_1).f0), .string ((rd_T26 pa x5_1).f1), .string ((rd_T26 pa x5_1).f2), .string ((rd_T26 pa x5_1).f3), .int .i64 ((rd_T26 pa x5_1).f4), .string ((rd_T26 pa x5_1).f5), .bool ((rd_T26 pa x5_1).f6), .int .i64 ((rd_T26 pa x5_1).f7)] 26 (0, 0))) ∧ Aside0 (Below w.heap.size w wc))
           case first =>
            have H := HC61.out;clear HC61;by_cases c68 : ((rd_T26 pa x5_1).f0) = 1
            ·rw [if_pos c68] at H
             have c68b0 : (((rd_T26 pa x5_1).f0) == 1) = true := beq_iff_eq.mpr c68;have c68b1 : (((rd_T26 pa x5_1).f0) != 1) = false := bne_eq_false_iff_eq.mpr c68;clear c68;(first | rw [c68b0] | rw [c68b1] | rw [c68b2] | (simp only [i64_w, i32_w]; rw [c68b0]) | skip);obtain ⟨qq, hy663⟩ : ∃ y_ : List ByteArray, y_ = (([((rd_T26 pa x5_1).f2)] : List ByteArray)) := ⟨_, rfl⟩;replace H : ((tollref01_Same.f k2 pp qq).bind fun p9 => (tolllaw07_FilterFields_g2.j2 k2 x5_1 pp pr (!p9) pa ps pu pv pz pA pn pm pD pC pE pF pt pq ((rd_T26 pa x5_1).f0) ((rd_T26 pa x5_1).f1) ((rd_T26 pa x5_1).f2) ((rd_T26 pa x5_1).f3) ((rd_T26 pa x5_1).f4) ((rd_T26 pa x5_1).f5) ((rd_T26 pa x5_1).f6) ((rd_T26 pa x5_1).f7))) = some r := by first | (rw [hy663]; with_reducible exact H) | (have H2_ := (Option.bind_some _ _).symm.trans H; rw [hy663]; with_reducible exact H2_) | (have H2_ := (Option.bind_some _ _).symm.trans H; with_reducible exact H2_) | with_reducible exact H | (rw [hy663]; exact H) | exact H
             have Ny663 := Aside0.mk hy663;clear hy663;replace H := Option.bind_eq_some_iff.mp H;obtain ⟨p9, A690, H⟩ := H;replace H : (tolllaw07_FilterFields_g2.j2 k2 x5_1 pp pr (!p9) pa ps pu pv pz pA pn pm pD pC pE pF pt pq ((rd_T26 pa x5_1).f0) ((rd_T26 pa x5_1).f1) ((rd_T26 pa x5_1).f2) ((rd_T26 pa x5_1).f3) ((rd_T26 pa x5_1).f4) ((rd_T26 pa x5_1).f5) ((rd_T26 pa x5_1).f6) ((rd_T26 pa x5_1).f7)) = some r := H;have A69 := Aside0.mk A690;clear A690;have H' := Aside0.mk H;clear H;have hnb70 := NB653_623.out;have hnc70 := NB623_653.out;have hnb71 := NB653_649.out;have hnc71 := NB649_653.out;obtain ⟨hcz72_0, hcz72_1, hcz72_2, hcz72_3, hcz72_4, hcz72_5, hcz72_6, hcz72_7, hfz72_0, hfz72_1, hfz72_2, hfz72_3, hfz72_4, hfz72_5, hfz72_6, hfz72_7⟩ := blk8 pb.out;go_wp2_with (first | ((with_reducible refine gate_dst (N := 97) rfl ?_); (try (refine gate_guard (by rfl) ?_; dsimp only)); refine Kd.R_lit Kd.string _ 9 ?hg (N := 97) ?hd (xs := ([((rd_T26 pa x5_1).f2)] : List ByteArray)) (inner := [.string ((rd_T26 pa x5_1).f2)]) (ok := fun _ => True) (okp := fun _ => True) ?hr ?hp (fun _ hk => hk) trivial (Below.refl _ _) (Nat.le_refl _) (by simp) ?_; (case hd => rfl); (case hg => rfl); (case hr => first | (go_simp; done) | (go_simp; rfl)); (case hp => exact (Reps.one (show Kd.M Kd.string _ _ _ ((rd_T26 pa x5_1).f2) [.string ((rd_T26 pa x5_1).f2)] from rfl) (Reps.none _ _))); intro qI w73 ho74 hb hg_ hnew_; clear hg_ hnew_; (first | rw [← Ny663.out] at ho74 | (simp only [Int.reduceToNat] at ho74; rw [← Ny663.out] at ho74)); have n0_ := am_ (Kd.R_below (R_ pf.out) hb); have n1_ := am_ (Kd.R_below (R_ pj.out) hb); have n2_ := am_ (Kd.R_below (R_ pg.out) hb); have n3_ := am_ (Kd.V_elder' (by (with_reducible repeat (first | apply Kd.V_alloc | apply Kd.V_drewN | apply Kd.V_drew)); exact pk.out) (Kd.R_base ho74) hb); have n4_ := am_ (Kd.V_elder' (by (with_reducible repeat (first | apply Kd.V_alloc | apply Kd.V_drewN | apply Kd.V_drew)); exact ph.out) (Kd.R_base ho74) hb); have n5_ := am_ (Kd.R_elder' (R_ pY.out) (Kd.R_base ho74) hb); have n6_ := am_ (Kd.R_elder' (R_ qe.out) (Kd.R_base ho74) hb); have n7_ := am_ (Kd.R_lower (Kd.R_new' (Kd.R_new' ho74 (Kd.R_lt (R_ pY.out))) (Kd.R_lt (R_ qe.out))) (below_size (bel_ HB.out))); have n8_ := am_ (blk_below pc.out hb); have n9_ := am_ (blk_below pe.out hb); have n10_ := am_ (blk_below pb.out hb); have n11_ := am_ (below_step (bel_ HB.out) hb); clear pf pj pg pk ph pY qe pc pe pb HB; have pf := n0_; have pj := n1_; have pg := n2_; have pk := n3_; have ph := n4_; have pY := n5_; have qe := n6_; have qn := n7_; have pc := n8_; have pe := n9_; have pb := n10_; have HB := n11_; clear n0_ n1_ n2_ n3_ n4_ n5_ n6_ n7_ n8_ n9_ n10_ n11_ hb ho74; obtain ⟨qJ, qK, eo75⟩ := Kd.R_slice pY.out; subst eo75; obtain ⟨qL, qM, eo76⟩ := Kd.R_slice qn.out; subst eo76) | (go_at_call 25; (with_reducible refine (tollref01_Same.calls k2 _ _ pp _ _ qq p9 _ ?side1 ?side2 ?side3 ?side4 A69.out).mono ?_); (case side1 => exact C_ (Kd.R_reads' pY.out).2.2); (case side2 => exact (Kd.R_reads' pY.out).2.1); (case side3 => exact C_ (Kd.R_reads' qn.out).2.2); (case side4 => exact (Kd.R_reads' qn.out).2.1); rintro e w' ⟨rfl, ⟨nd, rfl⟩⟩))
             go_meet
             case rel => exact ⟨_, (!p9), sd_, H', ⟨by have := HK1.out; have := HK2.out; first | omega | exact Nat.le_refl _⟩, ⟨by (with_reducible repeat (first | apply Kd.R_alloc | apply Kd.R_drewN | apply Kd.R_drew)); exact Kd.R_mono pY.out (fun _ hk => hk.1.2)⟩, ⟨by (with_reducible repeat (first | apply Kd.R_alloc | apply Kd.R_drewN | apply Kd.R_drew)); exact Kd.R_mono qe.out (fun _ hk => hk.1.2)⟩, ⟨by (with_reducible repeat (first | apply Kd.R_alloc | apply Kd.R_drewN | apply Kd.R_drew)); exact pf.out⟩, ⟨by (with_reducible repeat (first | apply Kd.R_alloc | apply Kd.R_drewN | apply Kd.R_drew)); exact pj.out⟩, ⟨by (with_reducible repeat (first | apply Kd.R_alloc | apply Kd.R_drewN | apply Kd.R_drew)); exact pg.out⟩, ⟨by (with_reducible repeat (first | apply Kd.V_alloc | apply Kd.V_drewN | apply Kd.V_drew)); exact Kd.V_mono pk.out (fun _ hk => ⟨hk.1.1.2, ⟨hk.1.2, ⟨hk.1.1.1.1, ⟨hk.1.1.1.2.1, ⟨hk.1.1.1.2.2.1, hk.1.1.1.2.2.2⟩⟩⟩⟩⟩)⟩, ⟨by (with_reducible repeat (first | apply Kd.V_alloc | apply Kd.V_drewN | apply Kd.V_drew)); exact Kd.V_mono ph.out (fun _ hk => ⟨hk.1.1.2, ⟨hk.1.2, ⟨hk.1.1.1.1, ⟨hk.1.1.1.2.1, ⟨hk.1.1.1.2.2.1, hk.1.1.1.2.2.2⟩⟩⟩⟩⟩)⟩, ⟨by (with_reducible repeat (first | refine blk_drewN ?_ _ | refine blk_drew ?_ | refine blk_alloc ?_ _)); exact pc.out⟩, ⟨by (with_reducible repeat (first | refine blk_drewN ?_ _ | refine blk_drew ?_ | refine blk_alloc ?_ _)); exact pe.out⟩, ⟨by (with_reducible repeat (first | refine blk_drewN ?_ _ | refine blk_drew ?_ | refine blk_alloc ?_ _)); exact pb.out⟩, ⟨bel_ HB.out⟩⟩
            ·rw [if_neg c68] at H
             have c68b0 : (((rd_T26 pa x5_1).f0) == 1) = false := beq_eq_false_iff_ne.mpr c68;have c68b1 : (((rd_T26 pa x5_1).f0) != 1) = true := bne_iff_ne.mpr c68;(first | rw [c68b0] | rw [c68b1] | rw [c68b2] | (simp only [i64_w, i32_w]; rw [c68b0]) | skip);have H' := Aside0.mk H;clear H;have hnb77 := NB653_623.out;have hnc77 := NB623_653.out;have hnb78 := NB653_649.out;have hnc78 := NB649_653.out;obtain ⟨hcz79_0, hcz79_1, hcz79_2, hcz79_3, hcz79_4, hcz79_5, hcz79_6, hcz79_7, hfz79_0, hfz79_1, hfz79_2, hfz79_3, hfz79_4, hfz79_5, hfz79_6, hfz79_7⟩ := blk8 pb.out;go_wp2
             go_meet
             case rel => exact ⟨_, (false), sd_, H', ⟨by have := HK1.out; have := HK2.out; first | omega | exact Nat.le_refl _⟩, ⟨by (with_reducible repeat (first | apply Kd.R_alloc | apply Kd.R_drewN | apply Kd.R_drew)); exact Kd.R_mono pY.out (fun _ hk => hk.2)⟩, ⟨by (with_reducible repeat (first | apply Kd.R_alloc | apply Kd.R_drewN | apply Kd.R_drew)); exact Kd.R_mono qe.out (fun _ hk => hk.2)⟩, ⟨by (with_reducible repeat (first | apply Kd.R_alloc | apply Kd.R_drewN | apply Kd.R_drew)); exact pf.out⟩, ⟨by (with_reducible repeat (first | apply Kd.R_alloc | apply Kd.R_drewN | apply Kd.R_drew)); exact pj.out⟩, ⟨by (with_reducible repeat (first | apply Kd.R_alloc | apply Kd.R_drewN | apply Kd.R_drew)); exact pg.out⟩, ⟨by (with_reducible repeat (first | apply Kd.V_alloc | apply Kd.V_drewN | apply Kd.V_drew)); exact Kd.V_mono pk.out (fun _ hk => ⟨hk.1.2, ⟨hk.2, ⟨hk.1.1.1, ⟨hk.1.1.2.1, ⟨hk.1.1.2.2.1, hk.1.1.2.2.2⟩⟩⟩⟩⟩)⟩, ⟨by (with_reducible repeat (first | apply Kd.V_alloc | apply Kd.V_drewN | apply Kd.V_drew)); exact Kd.V_mono ph.out (fun _ hk => ⟨hk.1.2, ⟨hk.2, ⟨hk.1.1.1, ⟨hk.1.1.2.1, ⟨hk.1.1.2.2.1, hk.1.1.2.2.2⟩⟩⟩⟩⟩)⟩, ⟨by (with_reducible repeat (first | refine blk_drewN ?_ _ | refine blk_drew ?_ | refine blk_alloc ?_ _)); exact pc.out⟩, ⟨by (with_reducible repeat (first | refine blk_drewN ?_ _ | refine blk_drew ?_ | refine blk_alloc ?_ _)); exact pe.out⟩, ⟨by (with_reducible repeat (first | refine blk_drewN ?_ _ | refine blk_drew ?_ | refine blk_alloc ?_ _)); exact pb.out⟩, ⟨bel_ HB.out⟩⟩
           case rest =>
            clear HC61;try clear c2
            try clear p2
            try clear c3
            try clear c4
            try clear c5
            try clear c6
            try clear p6
            try clear c7
            try clear c26
            try clear c35
            try clear c35b0
            try clear c36
            try clear c42
            try clear c54
            try clear c55
            try clear c60
            try clear c62
            try clear c63
            try clear p64
            try clear c68
            try clear c68b0
            try clear c68b1
            try clear c68b2
            try clear c70
            try clear c71
            try clear c77
            try clear c78
            try clear hcz56_0
            try clear hcz56_1
            try clear hcz56_2
            try clear hcz56_3
            try clear hcz56_4
            try clear hcz56_5
            try clear hcz56_6
            try clear hcz56_7
            try clear hcz56_8
            try clear hcz64_0
            try clear hcz64_1
            try clear hcz64_2
            try clear hcz64_3
            try clear hcz64_4
            try clear hcz64_5
            try clear hcz64_6
            try clear hcz64_7
            try clear hcz64_8
            try clear hcz72_0
            try clear hcz72_1
            try clear hcz72_2
            try clear hcz72_3
            try clear hcz72_4
            try clear hcz72_5
            try clear hcz72_6
            try clear hcz72_7
            try clear hcz79_0
            try clear hcz79_1
            try clear hcz79_2
            try clear hcz79_3
            try clear hcz79_4
            try clear hcz79_5
            try clear hcz79_6
            try clear hcz79_7
            try clear hfz56_0
            try clear hfz56_1
            try clear hfz56_2
            try clear hfz56_3
            try clear hfz56_4
            try clear hfz56_5
            try clear hfz56_6
            try clear hfz56_7
            try clear hfz56_8
            try clear hfz64_0
            try clear hfz64_1
            try clear hfz64_2
            try clear hfz64_3
            try clear hfz64_4
            try clear hfz64_5
            try clear hfz64_6
            try clear hfz64_7
            try clear hfz64_8
            try clear hfz72_0
            try clear hfz72_1
            try clear hfz72_2
            try clear hfz72_3
            try clear hfz72_4
            try clear hfz72_5
            try clear hfz72_6
            try clear hfz72_7
            try clear hfz79_0
            try clear hfz79_1
            try clear hfz79_2
            try clear hfz79_3
            try clear hfz79_4
            try clear hfz79_5
            try clear hfz79_6
            try clear hfz79_7
            obtain ⟨kq, x89_60, rfl, HA, HJ60, pw, px, pf, pj, pg, pk, ph, pc, pe, pb, HB⟩ := hcut;cases kq with
            | zero => exact absurd HA.out (by simp [tolllaw07_FilterFields_g2.j2])
            | succ kj60 =>
             have H := HA.out;clear HA;simp only [tolllaw07_FilterFields_g2.j2] at H;by_cases c80 : x89_60 = true
             ·subst c80
              have H1 : (none) = some r := by rw [if_pos rfl] at H; exact H
              clear H;have H := H1;clear H1;exact absurd H (by simp)
             ·replace c80 := Bool.eq_false_iff.mpr c80
              subst c80;have H1 : (if ((rd_T26 pa x5_1).f0) = 3 then (tolllaw07_FilterFields_g2.j3 kj60 x5_1 pp pr (decide ((pp.length : Int) > 0)) pa ps pu pv pz pA pn pm pD pC pE pF pt pq ((rd_T26 pa x5_1).f0) ((rd_T26 pa x5_1).f1) ((rd_T26 pa x5_1).f2) ((rd_T26 pa x5_1).f3) ((rd_T26 pa x5_1).f4) ((rd_T26 pa x5_1).f5) ((rd_T26 pa x5_1).f6) ((rd_T26 pa x5_1).f7)) else (tolllaw07_FilterFields_g2.j3 kj60 x5_1 pp pr false pa ps pu pv pz pA pn pm pD pC pE pF pt pq ((rd_T26 pa x5_1).f0) ((rd_T26 pa x5_1).f1) ((rd_T26 pa x5_1).f2) ((rd_T26 pa x5_1).f3) ((rd_T26 pa x5_1).f4) ((rd_T26 pa x5_1).f5) ((rd_T26 pa x5_1).f6) ((rd_T26 pa x5_1).f7))) = some r := by rw [if_neg (show ¬ (false = true) by decide)] at H; exact H
              clear H;have H := H1;clear H1;have HC81 := Aside0.mk H;clear H;go_upto_region 19 with (fail)
              go_cut [101] (fun qA wc => ∃ (kq : Nat) (x101_80 : Bool), qA = .bool x101_80 ∧ Aside0 (tolllaw07_FilterFields_g2.j3 kq x5_1 pp pr x101_80 pa ps pu pv pz pA pn pm pD pC pE pF pt pq ((rd_T26 pa x5_1).f0) ((rd_T26 pa x5_1).f1) ((rd_T26 pa x5_1).f2) ((rd_T26 pa x5_1).f3) ((rd_T26 pa x5_1).f4) ((rd_T26 pa x5_1).f5) ((rd_T26 pa x5_1).f6) ((rd_T26 pa x5_1).f7) = some r) ∧ Aside0 (kq ≤ kj60) ∧ Aside0 (Kd.R Kd.string 9 wc w.heap.size (fun k_ => some k_ ≠ (qc : Value).ownBlock) qb pp) ∧ Aside0 (Kd.R Kd.string 9 wc w.heap.size (fun k_ => some k_ ≠ (qb : Value).ownBlock) qc pr) ∧ Aside0 (Kd.R k26 26 wc w.heap.size (fun k_ => k_ ≠ pd) (.slice (some pl) pa.length pB) pa) ∧ Aside0 (Kd.R k59 59 wc w.heap.size (fun k_ => some k_ ≠ ((.slice pG pm.length pH) : Value).ownBlock) (.slice pI pn.length pJ) pn) ∧ Aside0 (Kd.R k59 59 wc w.heap.size (fun k_ => some k_ ≠ ((.slice pI pn.length pJ) : Value).ownBlock) (.slice pG pm.length pH) pm) ∧ Aside0 (Kd.V k59 59 wc w.heap.size (fun k_ => some k_ ≠ (qb : Value).ownBlock ∧ some k_ ≠ (qc : Value).ownBlock ∧ some k_ ≠ ((.slice (some pl) pa.length pB) : Value).ownBlock ∧ k_ ≠ pi ∧ k_ ≠ po ∧ k_ ≠ pd) (.slice pW pt.length pX) pt) ∧ Aside0 (Kd.V k59 59 wc w.heap.size (fun k_ => some k_ ≠ (qb : Value).ownBlock ∧ some k_ ≠ (qc : Value).ownBlock ∧ some k_ ≠ ((.slice (some pl) pa.length pB) : Value).ownBlock ∧ k_ ≠ pi ∧ k_ ≠ po ∧ k_ ≠ pd) (.slice pT pq.length pU) pq) ∧ Aside0 (wc.heap[pi]? = some (.cells #[(.slice (some pl) pa.length pB), .int .i64 ps, .string pu, .string pv, .string pz, .string pA, (.slice pI pn.length pJ), (.slice pG pm.length pH), .bool pD] 35 (0, 0))) ∧ Aside0 (wc.heap[po]? = some (.cells #[.string pC, .string pE, .string pF, (.slice pW pt.length pX), (.slice pT pq.length pU)] 33 (0, 0))) ∧ Aside0 (wc.heap[pd]? = some (.cells #[.int .i64 ((rd_T26 pa x5_1).f0), .string ((rd_T26 pa x5_1).f1), .string ((rd_T26 pa x5_1).f2), .string ((rd_T26 pa x5_1).f3), .int .i64 ((rd_T26 pa x5_1).f4), .string ((rd_T26 pa x5_1).f5), .bool ((rd_T26 pa x5_1).f6), .int .i64 ((rd_T26 pa x5_1).f7)] 26 (0, 0))) ∧ Aside0 (Below w.heap.size w wc))
              case first =>
               have H := HC81.out;clear HC81;by_cases c82 : ((rd_T26 pa x5_1).f0) = 3
               ·rw [if_pos c82] at H
                have c82b0 : (((rd_T26 pa x5_1).f0) == 3) = true := beq_iff_eq.mpr c82;have c82b1 : (((rd_T26 pa x5_1).f0) != 3) = false := bne_eq_false_iff_eq.mpr c82;clear c82;(first | rw [c82b0] | rw [c82b1] | rw [c82b2] | (simp only [i64_w, i32_w]; rw [c82b0]) | skip);have H' := Aside0.mk H;clear H;have hnb83 := NB653_623.out;have hnc83 := NB623_653.out;have hnb84 := NB653_649.out;have hnc84 := NB649_653.out;obtain ⟨hcz85_0, hcz85_1, hcz85_2, hcz85_3, hcz85_4, hcz85_5, hcz85_6, hcz85_7, hfz85_0, hfz85_1, hfz85_2, hfz85_3, hfz85_4, hfz85_5, hfz85_6, hfz85_7⟩ := blk8 pb.out;obtain ⟨qN, qO, eo86⟩ := Kd.R_slice pw.out;subst eo86;go_wp2
                go_meet
                case rel => exact ⟨_, (decide ((pp.length : Int) > 0)), sd_, H', ⟨by have := HK1.out; have := HK2.out; have := HJ60.out; first | omega | exact Nat.le_refl _⟩, ⟨by (with_reducible repeat (first | apply Kd.R_alloc | apply Kd.R_drewN | apply Kd.R_drew)); exact pw.out⟩, ⟨by (with_reducible repeat (first | apply Kd.R_alloc | apply Kd.R_drewN | apply Kd.R_drew)); exact px.out⟩, ⟨by (with_reducible repeat (first | apply Kd.R_alloc | apply Kd.R_drewN | apply Kd.R_drew)); exact pf.out⟩, ⟨by (with_reducible repeat (first | apply Kd.R_alloc | apply Kd.R_drewN | apply Kd.R_drew)); exact pj.out⟩, ⟨by (with_reducible repeat (first | apply Kd.R_alloc | apply Kd.R_drewN | apply Kd.R_drew)); exact pg.out⟩, ⟨by (with_reducible repeat (first | apply Kd.V_alloc | apply Kd.V_drewN | apply Kd.V_drew)); exact pk.out⟩, ⟨by (with_reducible repeat (first | apply Kd.V_alloc | apply Kd.V_drewN | apply Kd.V_drew)); exact ph.out⟩, ⟨by (with_reducible repeat (first | refine blk_drewN ?_ _ | refine blk_drew ?_ | refine blk_alloc ?_ _)); exact pc.out⟩, ⟨by (with_reducible repeat (first | refine blk_drewN ?_ _ | refine blk_drew ?_ | refine blk_alloc ?_ _)); exact pe.out⟩, ⟨by (with_reducible repeat (first | refine blk_drewN ?_ _ | refine blk_drew ?_ | refine blk_alloc ?_ _)); exact pb.out⟩, ⟨bel_ HB.out⟩⟩
               ·rw [if_neg c82] at H
                have c82b0 : (((rd_T26 pa x5_1).f0) == 3) = false := beq_eq_false_iff_ne.mpr c82;have c82b1 : (((rd_T26 pa x5_1).f0) != 3) = true := bne_iff_ne.mpr c82;(first | rw [c82b0] | rw [c82b1] | rw [c82b2] | (simp only [i64_w, i32_w]; rw [c82b0]) | skip);have H' := Aside0.mk H;clear H;have hnb87 := NB653_623.out;have hnc87 := NB623_653.out;have hnb88 := NB653_649.out;have hnc88 := NB649_653.out;obtain ⟨hcz89_0, hcz89_1, hcz89_2, hcz89_3, hcz89_4, hcz89_5, hcz89_6, hcz89_7, hfz89_0, hfz89_1, hfz89_2, hfz89_3, hfz89_4, hfz89_5, hfz89_6, hfz89_7⟩ := blk8 pb.out;go_wp2
                go_meet
                case rel => exact ⟨_, (false), sd_, H', ⟨by have := HK1.out; have := HK2.out; have := HJ60.out; first | omega | exact Nat.le_refl _⟩, ⟨by (with_reducible repeat (first | apply Kd.R_alloc | apply Kd.R_drewN | apply Kd.R_drew)); exact pw.out⟩, ⟨by (with_reducible repeat (first | apply Kd.R_alloc | apply Kd.R_drewN | apply Kd.R_drew)); exact px.out⟩, ⟨by (with_reducible repeat (first | apply Kd.R_alloc | apply Kd.R_drewN | apply Kd.R_drew)); exact pf.out⟩, ⟨by (with_reducible repeat (first | apply Kd.R_alloc | apply Kd.R_drewN | apply Kd.R_drew)); exact pj.out⟩, ⟨by (with_reducible repeat (first | apply Kd.R_alloc | apply Kd.R_drewN | apply Kd.R_drew)); exact pg.out⟩, ⟨by (with_reducible repeat (first | apply Kd.V_alloc | apply Kd.V_drewN | apply Kd.V_drew)); exact pk.out⟩, ⟨by (with_reducible repeat (first | apply Kd.V_alloc | apply Kd.V_drewN | apply Kd.V_drew)); exact ph.out⟩, ⟨by (with_reducible repeat (first | refine blk_drewN ?_ _ | refine blk_drew ?_ | refine blk_alloc ?_ _)); exact pc.out⟩, ⟨by (with_reducible repeat (first | refine blk_drewN ?_ _ | refine blk_drew ?_ | refine blk_alloc ?_ _)); exact pe.out⟩, ⟨by (with_reducible repeat (first | refine blk_drewN ?_ _ | refine blk_drew ?_ | refine blk_alloc ?_ _)); exact pb.out⟩, ⟨bel_ HB.out⟩⟩
              case rest =>
               clear HC81;try clear c2
               try clear p2
               try clear c3
               try clear c4
               try clear c5
               try clear c6
               try clear p6
               try clear c7
               try clear c8
               try clear c26
               try clear c35
               try clear c35b0
               try clear c36
               try clear c42
               try clear c54
               try clear c55
               try clear c60
               try clear c62
               try clear c63
               try clear p64
               try clear c68
               try clear c68b0
               try clear c68b1
               try clear c68b2
               try clear c70
               try clear c71
               try clear c77
               try clear c78
               try clear c80
               try clear c82
               try clear c82b0
               try clear c82b1
               try clear c82b2
               try clear c83
               try clear c84
               try clear c87
               try clear c88
               try clear hcz56_0
               try clear hcz56_1
               try clear hcz56_2
               try clear hcz56_3
               try clear hcz56_4
               try clear hcz56_5
               try clear hcz56_6
               try clear hcz56_7
               try clear hcz56_8
               try clear hcz64_0
               try clear hcz64_1
               try clear hcz64_2
               try clear hcz64_3
               try clear hcz64_4
               try clear hcz64_5
               try clear hcz64_6
               try clear hcz64_7
               try clear hcz64_8
               try clear hcz72_0
               try clear hcz72_1
               try clear hcz72_2
               try clear hcz72_3
               try clear hcz72_4
               try clear hcz72_5
               try clear hcz72_6
               try clear hcz72_7
               try clear hcz79_0
               try clear hcz79_1
               try clear hcz79_2
               try clear hcz79_3
               try clear hcz79_4
               try clear hcz79_5
               try clear hcz79_6
               try clear hcz79_7
               try clear hcz85_0
               try clear hcz85_1
               try clear hcz85_2
               try clear hcz85_3
               try clear hcz85_4
               try clear hcz85_5
               try clear hcz85_6
               try clear hcz85_7
               try clear hcz89_0
               try clear hcz89_1
               try clear hcz89_2
               try clear hcz89_3
               try clear hcz89_4
               try clear hcz89_5
               try clear hcz89_6
               try clear hcz89_7
               try clear hfz56_0
               try clear hfz56_1
               try clear hfz56_2
               try clear hfz56_3
               try clear hfz56_4
               try clear hfz56_5
               try clear hfz56_6
               try clear hfz56_7
               try clear hfz56_8
               try clear hfz64_0
               try clear hfz64_1
               try clear hfz64_2
               try clear hfz64_3
               try clear hfz64_4
               try clear hfz64_5
               try clear hfz64_6
               try clear hfz64_7
               try clear hfz64_8
               try clear hfz72_0
               try clear hfz72_1
               try clear hfz72_2
               try clear hfz72_3
               try clear hfz72_4
               try clear hfz72_5
               try clear hfz72_6
               try clear hfz72_7
               try clear hfz79_0
               try clear hfz79_1
               try clear hfz79_2
               try clear hfz79_3
               try clear hfz79_4
               try clear hfz79_5
               try clear hfz79_6
               try clear hfz79_7
               try clear hfz85_0
               try clear hfz85_1
               try clear hfz85_2
               try clear hfz85_3
               try clear hfz85_4
               try clear hfz85_5
               try clear hfz85_6
               try clear hfz85_7
               try clear hfz89_0
               try clear hfz89_1
               try clear hfz89_2
               try clear hfz89_3
               try clear hfz89_4
               try clear hfz89_5
               try clear hfz89_6
               try clear hfz89_7
               try clear p2
               try clear p6
               try clear p64
               obtain ⟨kq, x101_80, rfl, HA, HJ80, pw, px, pf, pj, pg, pk, ph, pc, pe, pb, HB⟩ := hcut;cases kq with
               | zero => exact absurd HA.out (by simp [tolllaw07_FilterFields_g2.j3])
               | succ kj80 =>
                have H := HA.out;clear HA;simp only [tolllaw07_FilterFields_g2.j3] at H;by_cases c90 : x101_80 = true
                ·subst c90
                 have H1 : (none) = some r := by rw [if_pos rfl] at H; exact H
                 clear H;have H := H1;clear H1;exact absurd H (by simp)
                ·replace c90 := Bool.eq_false_iff.mpr c90
                 subst c90;have H1 : (if ((rd_T26 pa x5_1).f0) = 2 then ((some (([] : List ByteArray) : List ByteArray)).bind fun qa => (if qa.length + pr.length < 8796093022208 then ((some (qa ++ pr : List ByteArray)).bind fun p3 => ((some (([((rd_T26 pa x5_1).f2)] : List ByteArray) : List ByteArray)).bind fun pV => (if p3.length + pV.length < 8796093022208 then ((tollref01_Same.f kj80 pp (p3 ++ pV)).bind fun p7 => (if p7 = true then (tolllaw07_FilterFields_g2.l0 kj80 (wrap64 (x5_1 + 1)) pa ps pu pv pz pA pn pm pD pC pE pF pt pq) else (none))) else (none)))) else (none))) else (tolllaw07_FilterFields_g2.l0 kj80 (wrap64 (x5_1 + 1)) pa ps pu pv pz pA pn pm pD pC pE pF pt pq)) = some r := by rw [if_neg (show ¬ (false = true) by decide)] at H; exact H
                 clear H;have H := H1;clear H1;by_cases c91 : ((rd_T26 pa x5_1).f0) = 2
                 ·rw [if_pos c91] at H
                  have c91b0 : (((rd_T26 pa x5_1).f0) == 2) = true := beq_iff_eq.mpr c91;have c91b1 : (((rd_T26 pa x5_1).f0) != 2) = false := bne_eq_false_iff_eq.mpr c91;clear c91;obtain ⟨qa, hy667⟩ : ∃ y_ : List ByteArray, y_ = (([] : List ByteArray)) := ⟨_, rfl⟩;replace H : (if qa.length + pr.length < 8796093022208 then ((some (qa ++ pr : List ByteArray)).bind fun p3 => ((some (([((rd_T26 pa x5_1).f2)] : List ByteArray) : List ByteArray)).bind fun pV => (if p3.length + pV.length < 8796093022208 then ((tollref01_Same.f kj80 pp (p3 ++ pV)).bind fun p7 => (if p7 = true then (tolllaw07_FilterFields_g2.l0 kj80 (wrap64 (x5_1 + 1)) pa ps pu pv pz pA pn pm pD pC pE pF pt pq) else (none))) else (none)))) else (none)) = some r := by first | (rw [hy667]; with_reducible exact H) | (have H2_ := (Option.bind_some _ _).symm.trans H; rw [hy667]; with_reducible exact H2_) | (have H2_ := (Option.bind_some _ _).symm.trans H; with_reducible exact H2_) | with_reducible exact H | (rw [hy667]; exact H) | exact H
                  have Ny667 := Aside0.mk hy667;clear hy667;by_cases c92 : qa.length + pr.length < 8796093022208
                  ·rw [if_pos c92] at H
                   have LMc92 := Aside0.mk c92;clear c92;obtain ⟨p3, hy670⟩ : ∃ y_ : List ByteArray, y_ = (qa ++ pr) := ⟨_, rfl⟩;replace H : ((some (([((rd_T26 pa x5_1).f2)] : List ByteArray) : List ByteArray)).bind fun pV => (if p3.length + pV.length < 8796093022208 then ((tollref01_Same.f kj80 pp (p3 ++ pV)).bind fun p7 => (if p7 = true then (tolllaw07_FilterFields_g2.l0 kj80 (wrap64 (x5_1 + 1)) pa ps pu pv pz pA pn pm pD pC pE pF pt pq) else (none))) else (none))) = some r := by first | (rw [hy670]; with_reducible exact H) | (have H2_ := (Option.bind_some _ _).symm.trans H; rw [hy670]; with_reducible exact H2_) | (have H2_ := (Option.bind_some _ _).symm.trans H; with_reducible exact H2_) | with_reducible exact H | (rw [hy670]; exact H) | exact H
                   have Ny670 := Aside0.mk hy670;clear hy670;obtain ⟨pV, hy673⟩ : ∃ y_ : List ByteArray, y_ = (([((rd_T26 pa x5_1).f2)] : List ByteArray)) := ⟨_, rfl⟩;replace H : (if p3.length + pV.length < 8796093022208 then ((tollref01_Same.f kj80 pp (p3 ++ pV)).bind fun p7 => (if p7 = true then (tolllaw07_FilterFields_g2.l0 kj80 (wrap64 (x5_1 + 1)) pa ps pu pv pz pA pn pm pD pC pE pF pt pq) else (none))) else (none)) = some r := by first | (rw [hy673]; with_reducible exact H) | (have H2_ := (Option.bind_some _ _).symm.trans H; rw [hy673]; with_reducible exact H2_) | (have H2_ := (Option.bind_some _ _).symm.trans H; with_reducible exact H2_) | with_reducible exact H | (rw [hy673]; exact H) | exact H
                   have Ny673 := Aside0.mk hy673;clear hy673;by_cases c93 : p3.length + pV.length < 8796093022208
                   ·rw [if_pos c93] at H
                    have LMc93 := Aside0.mk c93;clear c93;obtain ⟨qo, hy676⟩ : ∃ y_ : List ByteArray, y_ = (p3 ++ pV) := ⟨_, rfl⟩;replace H : ((tollref01_Same.f kj80 pp qo).bind fun p7 => (if p7 = true then (tolllaw07_FilterFields_g2.l0 kj80 (wrap64 (x5_1 + 1)) pa ps pu pv pz pA pn pm pD pC pE pF pt pq) else (none))) = some r := by first | (rw [hy676]; with_reducible exact H) | (have H2_ := (Option.bind_some _ _).symm.trans H; rw [hy676]; with_reducible exact H2_) | (have H2_ := (Option.bind_some _ _).symm.trans H; with_reducible exact H2_) | with_reducible exact H | (rw [hy676]; exact H) | exact H
                    have Ny676 := Aside0.mk hy676;clear hy676;replace H := Option.bind_eq_some_iff.mp H;obtain ⟨p7, A940, H⟩ := H;replace H : (if p7 = true then (tolllaw07_FilterFields_g2.l0 kj80 (wrap64 (x5_1 + 1)) pa ps pu pv pz pA pn pm pD pC pE pF pt pq) else (none)) = some r := H;have A94 := Aside0.mk A940;clear A940;by_cases c95 : p7 = true
                    ·subst c95
                     have H1 : (tolllaw07_FilterFields_g2.l0 kj80 (wrap64 (x5_1 + 1)) pa ps pu pv pz pA pn pm pD pC pE pF pt pq) = some r := by rw [if_pos rfl] at H; exact H
                     clear H;have H := H1;clear H1;have H' := Aside0.mk H;clear H;obtain ⟨pM, pN, eo96⟩ := Kd.R_slice px.out;subst eo96;obtain ⟨pK, pL, eo97⟩ := Kd.R_slice pw.out;subst eo97;try go_wp2
                     have n0_ := am_ (Kd.R_drew pw.out);have n1_ := am_ (Kd.R_drew px.out);have n2_ := am_ (Kd.R_drew pf.out);have n3_ := am_ (Kd.R_drew pj.out);have n4_ := am_ (Kd.R_drew pg.out);have n5_ := am_ (Kd.V_drew pk.out);have n6_ := am_ (Kd.V_drew ph.out);have n7_ := am_ (blk_drew pc.out);have n8_ := am_ (blk_drew pe.out);have n9_ := am_ (blk_drew pb.out);have n10_ := am_ (below_drew1 HB.out);clear pw px pf pj pg pk ph pc pe pb HB;have pw := n0_;have px := n1_;have pf := n2_;have pj := n3_;have pg := n4_;have pk := n5_;have ph := n6_;have pc := n7_;have pe := n8_;have pb := n9_;have HB := n10_;clear n0_ n1_ n2_ n3_ n4_ n5_ n6_ n7_ n8_ n9_ n10_;refine start_ (n := 16) (S := fun w' => w'.cell? ⟨pd, 0, none⟩ = some (.int .i64 ((rd_T26 pa x5_1).f0)) ∧ w'.cell? ⟨pd, 1, none⟩ = some (.string ((rd_T26 pa x5_1).f1)) ∧ w'.cell? ⟨pd, 2, none⟩ = some (.string ((rd_T26 pa x5_1).f2)) ∧ w'.cell? ⟨pd, 3, none⟩ = some (.string ((rd_T26 pa x5_1).f3)) ∧ w'.cell? ⟨pd, 4, none⟩ = some (.int .i64 ((rd_T26 pa x5_1).f4)) ∧ w'.cell? ⟨pd, 5, none⟩ = some (.string ((rd_T26 pa x5_1).f5)) ∧ w'.cell? ⟨pd, 6, none⟩ = some (.bool ((rd_T26 pa x5_1).f6)) ∧ w'.cell? ⟨pd, 7, none⟩ = some (.int .i64 ((rd_T26 pa x5_1).f7))) (ds := []) #[false, false, false, false, false, false, false, false, false, false, false, false, false, false, false, false] kr_ rfl rfl ⟨(blk_cell pb.out 0).trans rfl, (blk_cell pb.out 1).trans rfl, (blk_cell pb.out 2).trans rfl, (blk_cell pb.out 3).trans rfl, (blk_cell pb.out 4).trans rfl, (blk_cell pb.out 5).trans rfl, (blk_cell pb.out 6).trans rfl, (blk_cell pb.out 7).trans rfl⟩ (fun hHeld => ?_); refine with_tabW tolllaw07_FilterFields_g2.tab21 tolllaw07_FilterFields_g2.bits21 (fun HT_ HW_ => ?_);generalize wc.drew = w98 at pw px pf pj pg pk ph pc pe pb HB hHeld ⊢;refine pure_ (i := 0) (N := some 111) (v := ?_) (a' := ?_) #[true, false, false, false, false, false, false, false, false, false, false, false, false, false, false, false] rfl rfl (any_of HT_.out kr_) (fun _ _ _ h => h) (Or.inl ⟨by rfl, ?_⟩) ?_ ?_;rotate_left
                     ·intro w'
                      go_simp
                      with_reducible rfl
                     rotate_left
                     ·simp only [Act.put, sx_, s0_, s1_, i64_w, i32_w]
                      rfl
                     refine take_ (i := 1) (N := some 112) (v := ?_) (a' := ?_) #[true, true, false, false, false, false, false, false, false, false, false, false, false, false, false, false] rfl rfl (take_ofW HT_.out HW_.out kr_) (fun _ _ _ h => h) (Or.inl ⟨by rfl, ?_⟩) hHeld ?_ ?_;rotate_left
                     ·rintro w' ⟨s0, s1, s2, s3, s4, s5, s6, s7⟩
                      go_simp
                      with_reducible rfl
                     rotate_left
                     ·simp only [Act.put, sx_, s0_, s1_, i64_w, i32_w]
                      rfl
                     refine pure_ (i := 2) (N := some 113) (v := ?_) (a' := ?_) #[true, true, true, false, false, false, false, false, false, false, false, false, false, false, false, false] rfl rfl (any_of HT_.out kr_) (fun _ _ _ h => h) (Or.inl ⟨by rfl, ?_⟩) ?_ ?_;rotate_left
                     ·intro w'
                      go_simp
                      with_reducible rfl
                     rotate_left
                     ·simp only [Act.put, sx_, s0_, s1_, i64_w, i32_w]
                      rfl
                     refine pure_ (i := 3) (N := some 114) (v := ?_) (a' := ?_) #[true, true, true, true, false, false, false, false, false, false, false, false, false, false, false, false] rfl rfl (any_of HT_.out kr_) (fun _ _ _ h => h) (Or.inl ⟨by rfl, ?_⟩) ?_ ?_;rotate_left
                     ·intro w'
                      go_simp
                      with_reducible rfl
                     rotate_left
                     ·simp only [Act.put, sx_, s0_, s1_, i64_w, i32_w]
                      rfl
                     refine pure_ (i := 4) (N := some 115) (v := ?_) (a' := ?_) #[true, true, true, true, true, false, false, false, false, false, false, false, false, false, false, false] rfl rfl (any_of HT_.out kr_) (fun _ _ _ h => h) (Or.inl ⟨by rfl, ?_⟩) ?_ ?_;rotate_left
                     ·intro w'
                      go_simp
                      with_reducible rfl
                     rotate_left
                     ·simp only [Act.put, sx_, s0_, s1_, i64_w, i32_w]
                      rfl
                     refine pure_ (i := 6) (N := some 117) (v := ?_) (a' := ?_) #[true, true, true, true, true, false, true, false, false, false, false, false, false, false, false, false] rfl rfl (any_of HT_.out kr_) (fun _ _ _ h => h) (Or.inl ⟨by rfl, ?_⟩) ?_ ?_;rotate_left
                     ·intro w'
                      go_simp
                      with_reducible rfl
                     rotate_left
                     ·simp only [Act.put, sx_, s0_, s1_, i64_w, i32_w]
                      rfl
                     refine pure_ (i := 8) (N := some 119) (v := ?_) (a' := ?_) #[true, true, true, true, true, false, true, false, true, false, false, false, false, false, false, false] rfl rfl (any_of HT_.out kr_) (fun _ _ _ h => h) (Or.inl ⟨by rfl, ?_⟩) ?_ ?_;rotate_left
                     ·intro w'
                      go_simp
                      with_reducible rfl
                     rotate_left
                     ·simp only [Act.put, sx_, s0_, s1_, i64_w, i32_w]
                      rfl
                     refine take_ (i := 9) (N := some 120) (v := ?_) (a' := ?_) #[true, true, true, true, true, false, true, false, true, true, false, false, false, false, false, false] rfl rfl (take_ofW HT_.out HW_.out kr_) (fun _ _ _ h => h) (Or.inl ⟨by rfl, ?_⟩) hHeld ?_ ?_;rotate_left
                     ·rintro w' ⟨s0, s1, s2, s3, s4, s5, s6, s7⟩
                      go_simp
                      with_reducible rfl
                     rotate_left
                     ·simp only [Act.put, sx_, s0_, s1_, i64_w, i32_w]
                      rfl
                     refine join_ (σ := Value × Value × Value) 5 #[true, true, true, true, true, true, true, true, true, true, true, false, false, false, false, false] (fun s_ => [(116, s_.1), (118, s_.2.1), (121, s_.2.2)]) (fun s_ w' => (w'.cell? ⟨pd, 0, none⟩ = some (.int .i64 ((rd_T26 pa x5_1).f0)) ∧ w'.cell? ⟨pd, 1, none⟩ = some (.string ((rd_T26 pa x5_1).f1)) ∧ w'.cell? ⟨pd, 2, none⟩ = some (.string ((rd_T26 pa x5_1).f2)) ∧ w'.cell? ⟨pd, 3, none⟩ = some (.string ((rd_T26 pa x5_1).f3)) ∧ w'.cell? ⟨pd, 4, none⟩ = some (.int .i64 ((rd_T26 pa x5_1).f4)) ∧ w'.cell? ⟨pd, 5, none⟩ = some (.string ((rd_T26 pa x5_1).f5)) ∧ w'.cell? ⟨pd, 6, none⟩ = some (.bool ((rd_T26 pa x5_1).f6)) ∧ w'.cell? ⟨pd, 7, none⟩ = some (.int .i64 ((rd_T26 pa x5_1).f7))) ∧ (Kd.R Kd.string 9 w' w.heap.size (fun k_ => some k_ ≠ (s_.2.2 : Value).ownBlock ∧ some k_ ≠ (.slice pM pr.length pN : Value).ownBlock ∧ some k_ ≠ (.slice pK pp.length pL : Value).ownBlock) s_.2.1 p3) ∧ (Kd.R Kd.string 9 w' w.heap.size (fun k_ => some k_ ≠ (s_.2.1 : Value).ownBlock ∧ some k_ ≠ (.slice pM pr.length pN : Value).ownBlock ∧ some k_ ≠ (.slice pK pp.length pL : Value).ownBlock) s_.2.2 pV) ∧ (Kd.R Kd.string 9 w' w.heap.size (fun k_ => some k_ ≠ (s_.2.1 : Value).ownBlock ∧ some k_ ≠ (s_.2.2 : Value).ownBlock ∧ some k_ ≠ (.slice pK pp.length pL : Value).ownBlock) (.slice pM pr.length pN) pr) ∧ (Kd.R k26 26 w' w.heap.size (fun k_ => k_ ≠ pd) (.slice (some pl) pa.length pB) pa) ∧ (Kd.R k59 59 w' w.heap.size (fun k_ => some k_ ≠ (.slice pG pm.length pH : Value).ownBlock) (.slice pI pn.length pJ) pn) ∧ (Kd.R k59 59 w' w.heap.size (fun k_ => some k_ ≠ (.slice pI pn.length pJ : Value).ownBlock) (.slice pG pm.length pH) pm) ∧ (Kd.V k59 59 w' w.heap.size (fun k_ => some k_ ≠ (s_.2.1 : Value).ownBlock ∧ some k_ ≠ (s_.2.2 : Value).ownBlock ∧ some k_ ≠ (.slice pM pr.length pN : Value).ownBlock ∧ some k_ ≠ (.slice (some pl) pa.length pB : Value).ownBlock ∧ some k_ ≠ (.slice pK pp.length pL : Value).ownBlock ∧ k_ ≠ pi ∧ k_ ≠ po ∧ k_ ≠ pd) (.slice pW pt.length pX) pt) ∧ (Kd.V k59 59 w' w.heap.size (fun k_ => some k_ ≠ (s_.2.1 : Value).ownBlock ∧ some k_ ≠ (s_.2.2 : Value).ownBlock ∧ some k_ ≠ (.slice pM pr.length pN : Value).ownBlock ∧ some k_ ≠ (.slice (some pl) pa.length pB : Value).ownBlock ∧ some k_ ≠ (.slice pK pp.length pL : Value).ownBlock ∧ k_ ≠ pi ∧ k_ ≠ po ∧ k_ ≠ pd) (.slice pT pq.length pU) pq) ∧ (Kd.R Kd.string 9 w' w.heap.size (fun k_ => some k_ ≠ (s_.2.1 : Value).ownBlock ∧ some k_ ≠ (s_.2.2 : Value).ownBlock ∧ some k_ ≠ (.slice pM pr.length pN : Value).ownBlock) (.slice pK pp.length pL) pp) ∧ (w'.heap[pi]? = some (.cells #[.slice (some pl) pa.length pB, .int .i64 ps, .string pu, .string pv, .string pz, .string pA, .slice pI pn.length pJ, .slice pG pm.length pH, .bool pD] 35 (0, 0))) ∧ (w'.heap[po]? = some (.cells #[.string pC, .string pE, .string pF, .slice pW pt.length pX, .slice pT pq.length pU] 33 (0, 0))) ∧ (w'.heap[pd]? = some (.cells #[.int .i64 ((rd_T26 pa x5_1).f0), .string ((rd_T26 pa x5_1).f1), .string ((rd_T26 pa x5_1).f2), .string ((rd_T26 pa x5_1).f3), .int .i64 ((rd_T26 pa x5_1).f4), .string ((rd_T26 pa x5_1).f5), .bool ((rd_T26 pa x5_1).f6), .int .i64 ((rd_T26 pa x5_1).f7)] 26 (0, 0))) ∧ (Below w.heap.size w w')) ?_ ?_;rotate_left
                     ·intro hCont
                      refine two_ (i := 5) (j := 10) (Ni := some 116) (Nj := some 121) #[true, true, true, true, true, true, true, false, true, true, false, false, false, false, false, false] #[true, true, true, true, true, false, true, false, true, true, true, false, false, false, false, false] rfl rfl rfl rfl (two_of HT_.out kr_) (by decide) (by decide) (fun K hK => ?_) (fun K hK => ?_)
                      ·skip
                       refine Kd.R_lit_step Kd.string _ 9 ?hg (N := 116) ?hd (xs := ([] : List ByteArray)) (inner := []) (ok := fun _ => True) (okp := fun _ => True) ?hr ?hp (fun _ hk => hk) trivial (Below.refl _ _) (Nat.le_refl _) (by simp) ?_; (case hd => rfl); (case hg => rfl); (case hr => first | (go_simp; done) | (go_simp; rfl)); (case hp => exact (Reps.none _ _));intro qd w99 ho100 hb hg_ hnew_;clear hg_ hnew_;(first | rw [← Ny667.out] at ho100 | (simp only [Int.reduceToNat] at ho100; rw [← Ny667.out] at ho100));have n0_ := am_ (Kd.R_elder' (R_ pw.out) (Kd.R_base ho100) hb);have n1_ := am_ (Kd.R_elder' (R_ px.out) (Kd.R_base ho100) hb);have n2_ := am_ (Kd.R_below (R_ pf.out) hb);have n3_ := am_ (Kd.R_below (R_ pj.out) hb);have n4_ := am_ (Kd.R_below (R_ pg.out) hb);have n5_ := am_ (Kd.V_elder' (by (with_reducible repeat (first | apply Kd.V_alloc | apply Kd.V_drewN | apply Kd.V_drew)); exact pk.out) (Kd.R_base ho100) hb);have n6_ := am_ (Kd.V_elder' (by (with_reducible repeat (first | apply Kd.V_alloc | apply Kd.V_drewN | apply Kd.V_drew)); exact ph.out) (Kd.R_base ho100) hb);have n7_ := am_ (Kd.R_lower (Kd.R_new' (Kd.R_new' ho100 (Kd.R_lt (R_ pw.out))) (Kd.R_lt (R_ px.out))) (below_size (bel_ HB.out)));have n8_ := am_ (blk_below pc.out hb);have n9_ := am_ (blk_below pe.out hb);have n10_ := am_ (blk_below pb.out hb);have n11_ := am_ (below_step (bel_ HB.out) hb);clear pw px pf pj pg pk ph pc pe pb HB;have pw := n0_;have px := n1_;have pf := n2_;have pj := n3_;have pg := n4_;have pk := n5_;have ph := n6_;have pO := n7_;have pc := n8_;have pe := n9_;have pb := n10_;have HB := n11_;clear n0_ n1_ n2_ n3_ n4_ n5_ n6_ n7_ n8_ n9_ n10_ n11_ hb ho100;refine hK.out _ _ ⟨(blk_cell pb.out 0).trans rfl, (blk_cell pb.out 1).trans rfl, (blk_cell pb.out 2).trans rfl, (blk_cell pb.out 3).trans rfl, (blk_cell pb.out 4).trans rfl, (blk_cell pb.out 5).trans rfl, (blk_cell pb.out 6).trans rfl, (blk_cell pb.out 7).trans rfl⟩ (fun hHeld => ?_);clear hK K;refine norm_ (a' := ?_) ?_ ?_;rotate_left
                       ·show Act.put _ (some 116) _ = _
                        simp only [Act.put, sx_, s0_, s1_, i64_w, i32_w];rfl
                       refine two_ (i := 7) (j := 10) (Ni := some 118) (Nj := some 121) #[true, true, true, true, true, true, true, true, true, true, false, false, false, false, false, false] #[true, true, true, true, true, true, true, false, true, true, true, false, false, false, false, false] rfl rfl rfl rfl (two_of HT_.out kr_) (by decide) (by decide) (fun K hK => ?_) (fun K hK => ?_)
                       ·skip
                        refine Kd.R_append_rows_step Kd.string (w0 := w) w.heap.size (by rfl) (.tmp 116) (.tmp 117) 55 9 (.string ⟨#[]⟩) 16 rfl Tryz.underlying55 info9 rfl (by decide) (by omega) qd qa pr _ _ _ (fun k_ => some k_ ≠ (.slice pK pp.length pL : Value).ownBlock ∧ some k_ ≠ (.slice pM pr.length pN : Value).ownBlock) (fun _ => False) rfl rfl ?aO ?aR (fun _ _ h => h) (fun _ h => h.elim) ?aF ?aB ?aS ?aL ?_;(case aR => exact C_ (Kd.R_reads' px.out).2.2);(case aB => exact (bel_ HB.out));(case aF => exact (fun k_ hk => ⟨Kd.fresh' (Kd.R_lt (R_ pw.out)) k_ hk, Kd.fresh' (Kd.R_lt (R_ px.out)) k_ hk⟩));(case aO => exact (Kd.R_mono pO.out (fun _ hk => ⟨hk.1.2, hk.2⟩)));(case aS => exact (below_size (bel_ HB.out)));(case aL => have := LMc92.out; omega);intro p4 w101 ho hb hg hat;rw [← Ny670.out] at ho;have n0_ := am_ (Kd.R_after (ok := (fun k_ => some k_ ≠ (.slice pM pr.length pN : Value).ownBlock)) (R_ pw.out) hg hat);have n1_ := am_ (Kd.R_after (ok := (fun k_ => some k_ ≠ (.slice pK pp.length pL : Value).ownBlock)) (R_ px.out) hg hat);have n2_ := am_ (Kd.R_over' (R_ pf.out) (Kd.R_typed (R_ pO.out)) (by decide) hg);have n3_ := am_ (Kd.R_over' (R_ pj.out) (Kd.R_typed (R_ pO.out)) (by decide) hg);have n4_ := am_ (Kd.R_over' (R_ pg.out) (Kd.R_typed (R_ pO.out)) (by decide) hg);have n5_ := am_ (Kd.V_afterv (ok := (fun k_ => some k_ ≠ (.slice pK pp.length pL : Value).ownBlock ∧ some k_ ≠ (.slice pM pr.length pN : Value).ownBlock ∧ some k_ ≠ (.slice (some pl) pa.length pB : Value).ownBlock ∧ k_ ≠ pi ∧ k_ ≠ po ∧ k_ ≠ pd)) (by (with_reducible repeat (first | apply Kd.V_alloc | apply Kd.V_drewN | apply Kd.V_drew)); exact pk.out) hg hat);have n6_ := am_ (Kd.V_afterv (ok := (fun k_ => some k_ ≠ (.slice pK pp.length pL : Value).ownBlock ∧ some k_ ≠ (.slice pM pr.length pN : Value).ownBlock ∧ some k_ ≠ (.slice (some pl) pa.length pB : Value).ownBlock ∧ k_ ≠ pi ∧ k_ ≠ po ∧ k_ ≠ pd)) (by (with_reducible repeat (first | apply Kd.V_alloc | apply Kd.V_drewN | apply Kd.V_drew)); exact ph.out) hg hat);have n7_ := am_ (blk_grown pc.out hg (Kd.R_ne pO.out pc.out (by decide)));have n8_ := am_ (blk_grown pe.out hg (Kd.R_ne pO.out pe.out (by decide)));have n9_ := am_ (blk_grown pb.out hg (Kd.R_ne pO.out pb.out (by decide)));have n10_ := am_ (hb);have n11_ := am_ (ho);clear pw px pf pj pg pk ph pc pe pb HB pO;have pw := n0_;have px := n1_;have pf := n2_;have pj := n3_;have pg := n4_;have pk := n5_;have ph := n6_;have pc := n7_;have pe := n8_;have pb := n9_;have HB := n10_;have pZ := n11_;clear n0_ n1_ n2_ n3_ n4_ n5_ n6_ n7_ n8_ n9_ n10_ n11_ ho hb hg hat;refine hK.out _ _ ⟨(blk_cell pb.out 0).trans rfl, (blk_cell pb.out 1).trans rfl, (blk_cell pb.out 2).trans rfl, (blk_cell pb.out 3).trans rfl, (blk_cell pb.out 4).trans rfl, (blk_cell pb.out 5).trans rfl, (blk_cell pb.out 6).trans rfl, (blk_cell pb.out 7).trans rfl⟩ (fun hHeld => ?_);clear hK K;refine norm_ (a' := ?_) ?_ ?_;rotate_left
                        ·show Act.put _ (some 118) _ = _
                         simp only [Act.put, sx_, s0_, s1_, i64_w, i32_w];rfl
                        refine one_ (i := 10) (N := some 121) #[true, true, true, true, true, true, true, true, true, true, true, false, false, false, false, false] rfl rfl (one_of HT_.out kr_) (by decide) (fun K hK => ?_);refine Kd.R_lit_step Kd.string _ 9 ?hg (N := 121) ?hd (xs := ([((rd_T26 pa x5_1).f2)] : List ByteArray)) (inner := [.string ((rd_T26 pa x5_1).f2)]) (ok := fun _ => True) (okp := fun _ => True) ?hr ?hp (fun _ hk => hk) trivial (Below.refl _ _) (Nat.le_refl _) (by simp) ?_; (case hd => rfl); (case hg => rfl); (case hr => first | (go_simp; done) | (go_simp; rfl)); (case hp => exact (Reps.one (show Kd.M Kd.string _ _ _ ((rd_T26 pa x5_1).f2) [.string ((rd_T26 pa x5_1).f2)] from rfl) (Reps.none _ _)));intro pR w102 ho103 hb hg_ hnew_;clear hg_ hnew_;(first | rw [← Ny673.out] at ho103 | (simp only [Int.reduceToNat] at ho103; rw [← Ny673.out] at ho103));have n0_ := am_ (Kd.R_elder' (R_ pw.out) (Kd.R_base ho103) hb);have n1_ := am_ (Kd.R_elder' (R_ px.out) (Kd.R_base ho103) hb);have n2_ := am_ (Kd.R_below (R_ pf.out) hb);have n3_ := am_ (Kd.R_below (R_ pj.out) hb);have n4_ := am_ (Kd.R_below (R_ pg.out) hb);have n5_ := am_ (Kd.V_elder' (by (with_reducible repeat (first | apply Kd.V_alloc | apply Kd.V_drewN | apply Kd.V_drew)); exact pk.out) (Kd.R_base ho103) hb);have n6_ := am_ (Kd.V_elder' (by (with_reducible repeat (first | apply Kd.V_alloc | apply Kd.V_drewN | apply Kd.V_drew)); exact ph.out) (Kd.R_base ho103) hb);have n7_ := am_ (Kd.R_elder' (R_ pZ.out) (Kd.R_base ho103) hb);have n8_ := am_ (Kd.R_lower (Kd.R_new' (Kd.R_new' (Kd.R_new' ho103 (Kd.R_lt (R_ pw.out))) (Kd.R_lt (R_ px.out))) (Kd.R_lt (R_ pZ.out))) (below_size (bel_ HB.out)));have n9_ := am_ (blk_below pc.out hb);have n10_ := am_ (blk_below pe.out hb);have n11_ := am_ (blk_below pb.out hb);have n12_ := am_ (below_step (bel_ HB.out) hb);clear pw px pf pj pg pk ph pZ pc pe pb HB;have pw := n0_;have px := n1_;have pf := n2_;have pj := n3_;have pg := n4_;have pk := n5_;have ph := n6_;have pZ := n7_;have pQ := n8_;have pc := n9_;have pe := n10_;have pb := n11_;have HB := n12_;clear n0_ n1_ n2_ n3_ n4_ n5_ n6_ n7_ n8_ n9_ n10_ n11_ n12_ hb ho103;refine hK.out _ _ ⟨(blk_cell pb.out 0).trans rfl, (blk_cell pb.out 1).trans rfl, (blk_cell pb.out 2).trans rfl, (blk_cell pb.out 3).trans rfl, (blk_cell pb.out 4).trans rfl, (blk_cell pb.out 5).trans rfl, (blk_cell pb.out 6).trans rfl, (blk_cell pb.out 7).trans rfl⟩ (fun hHeld => ?_);clear hK K;refine norm_ (a' := ?_) ?_ ?_;rotate_left
                        ·show Act.put _ (some 121) _ = _
                         simp only [Act.put, sx_, s0_, s1_, i64_w, i32_w];rfl
                        exact norm_ (by simp only [putAll, Act.put, List.setIfInBounds_toArray, List.set_cons_zero, List.set_cons_succ]) (hCont (qd, p4, pR) _ ⟨hHeld, (Kd.R_mono pZ.out (fun _ hk => ⟨hk.2, ⟨hk.1.2, hk.1.1⟩⟩)), (Kd.R_mono pQ.out (fun _ hk => ⟨hk.2, ⟨hk.1.2, hk.1.1.2⟩⟩)), (Kd.R_mono px.out (fun _ hk => ⟨hk.1.2, ⟨hk.2, hk.1.1⟩⟩)), (R_ pf.out), (R_ pj.out), (R_ pg.out), (by (with_reducible repeat (first | apply Kd.V_alloc | apply Kd.V_drewN | apply Kd.V_drew)); exact Kd.V_mono pk.out (fun _ hk => ⟨hk.1.2, ⟨hk.2, ⟨hk.1.1.2.1, ⟨hk.1.1.2.2.1, ⟨hk.1.1.1, ⟨hk.1.1.2.2.2.1, ⟨hk.1.1.2.2.2.2.1, hk.1.1.2.2.2.2.2⟩⟩⟩⟩⟩⟩⟩)), (by (with_reducible repeat (first | apply Kd.V_alloc | apply Kd.V_drewN | apply Kd.V_drew)); exact Kd.V_mono ph.out (fun _ hk => ⟨hk.1.2, ⟨hk.2, ⟨hk.1.1.2.1, ⟨hk.1.1.2.2.1, ⟨hk.1.1.1, ⟨hk.1.1.2.2.2.1, ⟨hk.1.1.2.2.2.2.1, hk.1.1.2.2.2.2.2⟩⟩⟩⟩⟩⟩⟩)), (Kd.R_mono pw.out (fun _ hk => ⟨hk.1.2, ⟨hk.2, hk.1.1⟩⟩)), (blk_ pc.out), (blk_ pe.out), (blk_ pb.out), (bel_ HB.out)⟩)
                       ·skip
                        refine Kd.R_lit_step Kd.string _ 9 ?hg (N := 121) ?hd (xs := ([((rd_T26 pa x5_1).f2)] : List ByteArray)) (inner := [.string ((rd_T26 pa x5_1).f2)]) (ok := fun _ => True) (okp := fun _ => True) ?hr ?hp (fun _ hk => hk) trivial (Below.refl _ _) (Nat.le_refl _) (by simp) ?_; (case hd => rfl); (case hg => rfl); (case hr => first | (go_simp; done) | (go_simp; rfl)); (case hp => exact (Reps.one (show Kd.M Kd.string _ _ _ ((rd_T26 pa x5_1).f2) [.string ((rd_T26 pa x5_1).f2)] from rfl) (Reps.none _ _)));intro pR w101 ho102 hb hg_ hnew_;clear hg_ hnew_;(first | rw [← Ny673.out] at ho102 | (simp only [Int.reduceToNat] at ho102; rw [← Ny673.out] at ho102));have n0_ := am_ (Kd.R_elder' (R_ pw.out) (Kd.R_base ho102) hb);have n1_ := am_ (Kd.R_elder' (R_ px.out) (Kd.R_base ho102) hb);have n2_ := am_ (Kd.R_below (R_ pf.out) hb);have n3_ := am_ (Kd.R_below (R_ pj.out) hb);have n4_ := am_ (Kd.R_below (R_ pg.out) hb);have n5_ := am_ (Kd.V_elder' (by (with_reducible repeat (first | apply Kd.V_alloc | apply Kd.V_drewN | apply Kd.V_drew)); exact pk.out) (Kd.R_base ho102) hb);have n6_ := am_ (Kd.V_elder' (by (with_reducible repeat (first | apply Kd.V_alloc | apply Kd.V_drewN | apply Kd.V_drew)); exact ph.out) (Kd.R_base ho102) hb);have n7_ := am_ (Kd.R_elder' (R_ pO.out) (Kd.R_base ho102) hb);have n8_ := am_ (Kd.R_lower (Kd.R_new' (Kd.R_new' (Kd.R_new' ho102 (Kd.R_lt (R_ pw.out))) (Kd.R_lt (R_ px.out))) (Kd.R_lt (R_ pO.out))) (below_size (bel_ HB.out)));have n9_ := am_ (blk_below pc.out hb);have n10_ := am_ (blk_below pe.out hb);have n11_ := am_ (blk_below pb.out hb);have n12_ := am_ (below_step (bel_ HB.out) hb);clear pw px pf pj pg pk ph pO pc pe pb HB;have pw := n0_;have px := n1_;have pf := n2_;have pj := n3_;have pg := n4_;have pk := n5_;have ph := n6_;have pO := n7_;have pQ := n8_;have pc := n9_;have pe := n10_;have pb := n11_;have HB := n12_;clear n0_ n1_ n2_ n3_ n4_ n5_ n6_ n7_ n8_ n9_ n10_ n11_ n12_ hb ho102;refine hK.out _ _ ⟨(blk_cell pb.out 0).trans rfl, (blk_cell pb.out 1).trans rfl, (blk_cell pb.out 2).trans rfl, (blk_cell pb.out 3).trans rfl, (blk_cell pb.out 4).trans rfl, (blk_cell pb.out 5).trans rfl, (blk_cell pb.out 6).trans rfl, (blk_cell pb.out 7).trans rfl⟩ (fun hHeld => ?_);clear hK K;refine norm_ (a' := ?_) ?_ ?_;rotate_left
                        ·show Act.put _ (some 121) _ = _
                         simp only [Act.put, sx_, s0_, s1_, i64_w, i32_w];rfl
                        refine one_ (i := 7) (N := some 118) #[true, true, true, true, true, true, true, true, true, true, true, false, false, false, false, false] rfl rfl (one_of HT_.out kr_) (by decide) (fun K hK => ?_);refine Kd.R_append_rows_step Kd.string (w0 := w) w.heap.size (by rfl) (.tmp 116) (.tmp 117) 55 9 (.string ⟨#[]⟩) 16 rfl Tryz.underlying55 info9 rfl (by decide) (by omega) qd qa pr _ _ _ (fun k_ => some k_ ≠ (.slice pK pp.length pL : Value).ownBlock ∧ some k_ ≠ (.slice pM pr.length pN : Value).ownBlock ∧ some k_ ≠ (pR : Value).ownBlock) (fun _ => False) rfl rfl ?aO ?aR (fun _ _ h => h) (fun _ h => h.elim) ?aF ?aB ?aS ?aL ?_;(case aR => exact C_ (Kd.R_reads' px.out).2.2);(case aB => exact (bel_ HB.out));(case aF => exact (fun k_ hk => ⟨Kd.fresh' (Kd.R_lt (R_ pw.out)) k_ hk, Kd.fresh' (Kd.R_lt (R_ px.out)) k_ hk, Kd.fresh' (Kd.R_lt (R_ pQ.out)) k_ hk⟩));(case aO => exact (Kd.R_mono pO.out (fun _ hk => ⟨hk.1.1.2, ⟨hk.1.2, hk.2⟩⟩)));(case aS => exact (below_size (bel_ HB.out)));(case aL => have := LMc92.out; omega);intro p4 w103 ho hb hg hat;rw [← Ny670.out] at ho;have n0_ := am_ (Kd.R_after (ok := (fun k_ => some k_ ≠ (.slice pM pr.length pN : Value).ownBlock ∧ some k_ ≠ (pR : Value).ownBlock)) (Kd.R_mono pw.out (fun _ hk => ⟨⟨hk.1.1, hk.2⟩, hk.1.2⟩)) hg hat);have n1_ := am_ (Kd.R_after (ok := (fun k_ => some k_ ≠ (.slice pK pp.length pL : Value).ownBlock ∧ some k_ ≠ (pR : Value).ownBlock)) (Kd.R_mono px.out (fun _ hk => ⟨⟨hk.1.1, hk.2⟩, hk.1.2⟩)) hg hat);have n2_ := am_ (Kd.R_over' (R_ pf.out) (Kd.R_typed (R_ pO.out)) (by decide) hg);have n3_ := am_ (Kd.R_over' (R_ pj.out) (Kd.R_typed (R_ pO.out)) (by decide) hg);have n4_ := am_ (Kd.R_over' (R_ pg.out) (Kd.R_typed (R_ pO.out)) (by decide) hg);have n5_ := am_ (Kd.V_afterv (ok := (fun k_ => some k_ ≠ (.slice pK pp.length pL : Value).ownBlock ∧ some k_ ≠ (.slice pM pr.length pN : Value).ownBlock ∧ some k_ ≠ (.slice (some pl) pa.length pB : Value).ownBlock ∧ some k_ ≠ (pR : Value).ownBlock ∧ k_ ≠ pi ∧ k_ ≠ po ∧ k_ ≠ pd)) (by (with_reducible repeat (first | apply Kd.V_alloc | apply Kd.V_drewN | apply Kd.V_drew)); exact Kd.V_mono pk.out (fun _ hk => ⟨⟨hk.1.1.1, ⟨hk.1.1.2.1, ⟨hk.1.1.2.2.1, ⟨hk.2, ⟨hk.1.1.2.2.2.1, ⟨hk.1.1.2.2.2.2.1, hk.1.1.2.2.2.2.2⟩⟩⟩⟩⟩⟩, hk.1.2⟩)) hg hat);have n6_ := am_ (Kd.V_afterv (ok := (fun k_ => some k_ ≠ (.slice pK pp.length pL : Value).ownBlock ∧ some k_ ≠ (.slice pM pr.length pN : Value).ownBlock ∧ some k_ ≠ (.slice (some pl) pa.length pB : Value).ownBlock ∧ some k_ ≠ (pR : Value).ownBlock ∧ k_ ≠ pi ∧ k_ ≠ po ∧ k_ ≠ pd)) (by (with_reducible repeat (first | apply Kd.V_alloc | apply Kd.V_drewN | apply Kd.V_drew)); exact Kd.V_mono ph.out (fun _ hk => ⟨⟨hk.1.1.1, ⟨hk.1.1.2.1, ⟨hk.1.1.2.2.1, ⟨hk.2, ⟨hk.1.1.2.2.2.1, ⟨hk.1.1.2.2.2.2.1, hk.1.1.2.2.2.2.2⟩⟩⟩⟩⟩⟩, hk.1.2⟩)) hg hat);have n7_ := am_ (blk_grown pc.out hg (Kd.R_ne pO.out pc.out (by decide)));have n8_ := am_ (blk_grown pe.out hg (Kd.R_ne pO.out pe.out (by decide)));have n9_ := am_ (blk_grown pb.out hg (Kd.R_ne pO.out pb.out (by decide)));have n10_ := am_ (Kd.R_after (ok := (fun k_ => some k_ ≠ (.slice pK pp.length pL : Value).ownBlock ∧ some k_ ≠ (.slice pM pr.length pN : Value).ownBlock)) (Kd.R_mono pQ.out (fun _ hk => ⟨⟨hk.1.1.2, hk.1.2⟩, hk.2⟩)) hg hat);have n11_ := am_ (hb);have n12_ := am_ (ho);clear pw px pf pj pg pk ph pc pe pb pQ HB pO;have pw := n0_;have px := n1_;have pf := n2_;have pj := n3_;have pg := n4_;have pk := n5_;have ph := n6_;have pc := n7_;have pe := n8_;have pb := n9_;have pQ := n10_;have HB := n11_;have pZ := n12_;clear n0_ n1_ n2_ n3_ n4_ n5_ n6_ n7_ n8_ n9_ n10_ n11_ n12_ ho hb hg hat;refine hK.out _ _ ⟨(blk_cell pb.out 0).trans rfl, (blk_cell pb.out 1).trans rfl, (blk_cell pb.out 2).trans rfl, (blk_cell pb.out 3).trans rfl, (blk_cell pb.out 4).trans rfl, (blk_cell pb.out 5).trans rfl, (blk_cell pb.out 6).trans rfl, (blk_cell pb.out 7).trans rfl⟩ (fun hHeld => ?_);clear hK K;refine norm_ (a' := ?_) ?_ ?_;rotate_left
                        ·show Act.put _ (some 118) _ = _
                         simp only [Act.put, sx_, s0_, s1_, i64_w, i32_w];rfl
                        exact norm_ (by simp only [putAll, Act.put, List.setIfInBounds_toArray, List.set_cons_zero, List.set_cons_succ]) (hCont (qd, p4, pR) _ ⟨hHeld, (Kd.R_mono pZ.out (fun _ hk => ⟨hk.2.2, ⟨hk.2.1, hk.1⟩⟩)), (Kd.R_mono pQ.out (fun _ hk => ⟨hk.2, ⟨hk.1.2, hk.1.1⟩⟩)), (Kd.R_mono px.out (fun _ hk => ⟨hk.2, ⟨hk.1.2, hk.1.1⟩⟩)), (R_ pf.out), (R_ pj.out), (R_ pg.out), (by (with_reducible repeat (first | apply Kd.V_alloc | apply Kd.V_drewN | apply Kd.V_drew)); exact Kd.V_mono pk.out (fun _ hk => ⟨hk.2, ⟨hk.1.2.2.2.1, ⟨hk.1.2.1, ⟨hk.1.2.2.1, ⟨hk.1.1, ⟨hk.1.2.2.2.2.1, ⟨hk.1.2.2.2.2.2.1, hk.1.2.2.2.2.2.2⟩⟩⟩⟩⟩⟩⟩)), (by (with_reducible repeat (first | apply Kd.V_alloc | apply Kd.V_drewN | apply Kd.V_drew)); exact Kd.V_mono ph.out (fun _ hk => ⟨hk.2, ⟨hk.1.2.2.2.1, ⟨hk.1.2.1, ⟨hk.1.2.2.1, ⟨hk.1.1, ⟨hk.1.2.2.2.2.1, ⟨hk.1.2.2.2.2.2.1, hk.1.2.2.2.2.2.2⟩⟩⟩⟩⟩⟩⟩)), (Kd.R_mono pw.out (fun _ hk => ⟨hk.2, ⟨hk.1.2, hk.1.1⟩⟩)), (blk_ pc.out), (blk_ pe.out), (blk_ pb.out), (bel_ HB.out)⟩)
                      ·skip
                       refine Kd.R_lit_step Kd.string _ 9 ?hg (N := 121) ?hd (xs := ([((rd_T26 pa x5_1).f2)] : List ByteArray)) (inner := [.string ((rd_T26 pa x5_1).f2)]) (ok := fun _ => True) (okp := fun _ => True) ?hr ?hp (fun _ hk => hk) trivial (Below.refl _ _) (Nat.le_refl _) (by simp) ?_; (case hd => rfl); (case hg => rfl); (case hr => first | (go_simp; done) | (go_simp; rfl)); (case hp => exact (Reps.one (show Kd.M Kd.string _ _ _ ((rd_T26 pa x5_1).f2) [.string ((rd_T26 pa x5_1).f2)] from rfl) (Reps.none _ _)));intro pR w99 ho100 hb hg_ hnew_;clear hg_ hnew_;(first | rw [← Ny673.out] at ho100 | (simp only [Int.reduceToNat] at ho100; rw [← Ny673.out] at ho100));have n0_ := am_ (Kd.R_elder' (R_ pw.out) (Kd.R_base ho100) hb);have n1_ := am_ (Kd.R_elder' (R_ px.out) (Kd.R_base ho100) hb);have n2_ := am_ (Kd.R_below (R_ pf.out) hb);have n3_ := am_ (Kd.R_below (R_ pj.out) hb);have n4_ := am_ (Kd.R_below (R_ pg.out) hb);have n5_ := am_ (Kd.V_elder' (by (with_reducible repeat (first | apply Kd.V_alloc | apply Kd.V_drewN | apply Kd.V_drew)); exact pk.out) (Kd.R_base ho100) hb);have n6_ := am_ (Kd.V_elder' (by (with_reducible repeat (first | apply Kd.V_alloc | apply Kd.V_drewN | apply Kd.V_drew)); exact ph.out) (Kd.R_base ho100) hb);have n7_ := am_ (Kd.R_lower (Kd.R_new' (Kd.R_new' ho100 (Kd.R_lt (R_ pw.out))) (Kd.R_lt (R_ px.out))) (below_size (bel_ HB.out)));have n8_ := am_ (blk_below pc.out hb);have n9_ := am_ (blk_below pe.out hb);have n10_ := am_ (blk_below pb.out hb);have n11_ := am_ (below_step (bel_ HB.out) hb);clear pw px pf pj pg pk ph pc pe pb HB;have pw := n0_;have px := n1_;have pf := n2_;have pj := n3_;have pg := n4_;have pk := n5_;have ph := n6_;have pQ := n7_;have pc := n8_;have pe := n9_;have pb := n10_;have HB := n11_;clear n0_ n1_ n2_ n3_ n4_ n5_ n6_ n7_ n8_ n9_ n10_ n11_ hb ho100;refine hK.out _ _ ⟨(blk_cell pb.out 0).trans rfl, (blk_cell pb.out 1).trans rfl, (blk_cell pb.out 2).trans rfl, (blk_cell pb.out 3).trans rfl, (blk_cell pb.out 4).trans rfl, (blk_cell pb.out 5).trans rfl, (blk_cell pb.out 6).trans rfl, (blk_cell pb.out 7).trans rfl⟩ (fun hHeld => ?_);clear hK K;refine norm_ (a' := ?_) ?_ ?_;rotate_left
                       ·show Act.put _ (some 121) _ = _
                        simp only [Act.put, sx_, s0_, s1_, i64_w, i32_w];rfl
                       refine one_ (i := 5) (N := some 116) #[true, true, true, true, true, true, true, false, true, true, true, false, false, false, false, false] rfl rfl (one_of HT_.out kr_) (by decide) (fun K hK => ?_);refine Kd.R_lit_step Kd.string _ 9 ?hg (N := 116) ?hd (xs := ([] : List ByteArray)) (inner := []) (ok := fun _ => True) (okp := fun _ => True) ?hr ?hp (fun _ hk => hk) trivial (Below.refl _ _) (Nat.le_refl _) (by simp) ?_; (case hd => rfl); (case hg => rfl); (case hr => first | (go_simp; done) | (go_simp; rfl)); (case hp => exact (Reps.none _ _));intro qd w101 ho102 hb hg_ hnew_;clear hg_ hnew_;(first | rw [← Ny667.out] at ho102 | (simp only [Int.reduceToNat] at ho102; rw [← Ny667.out] at ho102));have n0_ := am_ (Kd.R_elder' (R_ pw.out) (Kd.R_base ho102) hb);have n1_ := am_ (Kd.R_elder' (R_ px.out) (Kd.R_base ho102) hb);have n2_ := am_ (Kd.R_below (R_ pf.out) hb);have n3_ := am_ (Kd.R_below (R_ pj.out) hb);have n4_ := am_ (Kd.R_below (R_ pg.out) hb);have n5_ := am_ (Kd.V_elder' (by (with_reducible repeat (first | apply Kd.V_alloc | apply Kd.V_drewN | apply Kd.V_drew)); exact pk.out) (Kd.R_base ho102) hb);have n6_ := am_ (Kd.V_elder' (by (with_reducible repeat (first | apply Kd.V_alloc | apply Kd.V_drewN | apply Kd.V_drew)); exact ph.out) (Kd.R_base ho102) hb);have n7_ := am_ (Kd.R_elder' (R_ pQ.out) (Kd.R_base ho102) hb);have n8_ := am_ (Kd.R_lower (Kd.R_new' (Kd.R_new' (Kd.R_new' ho102 (Kd.R_lt (R_ pw.out))) (Kd.R_lt (R_ px.out))) (Kd.R_lt (R_ pQ.out))) (below_size (bel_ HB.out)));have n9_ := am_ (blk_below pc.out hb);have n10_ := am_ (blk_below pe.out hb);have n11_ := am_ (blk_below pb.out hb);have n12_ := am_ (below_step (bel_ HB.out) hb);clear pw px pf pj pg pk ph pQ pc pe pb HB;have pw := n0_;have px := n1_;have pf := n2_;have pj := n3_;have pg := n4_;have pk := n5_;have ph := n6_;have pQ := n7_;have pO := n8_;have pc := n9_;have pe := n10_;have pb := n11_;have HB := n12_;clear n0_ n1_ n2_ n3_ n4_ n5_ n6_ n7_ n8_ n9_ n10_ n11_ n12_ hb ho102;refine hK.out _ _ ⟨(blk_cell pb.out 0).trans rfl, (blk_cell pb.out 1).trans rfl, (blk_cell pb.out 2).trans rfl, (blk_cell pb.out 3).trans rfl, (blk_cell pb.out 4).trans rfl, (blk_cell pb.out 5).trans rfl, (blk_cell pb.out 6).trans rfl, (blk_cell pb.out 7).trans rfl⟩ (fun hHeld => ?_);clear hK K;refine norm_ (a' := ?_) ?_ ?_;rotate_left
                       ·show Act.put _ (some 116) _ = _
                        simp only [Act.put, sx_, s0_, s1_, i64_w, i32_w];rfl
                       refine one_ (i := 7) (N := some 118) #[true, true, true, true, true, true, true, true, true, true, true, false, false, false, false, false] rfl rfl (one_of HT_.out kr_) (by decide) (fun K hK => ?_);refine Kd.R_append_rows_step Kd.string (w0 := w) w.heap.size (by rfl) (.tmp 116) (.tmp 117) 55 9 (.string ⟨#[]⟩) 16 rfl Tryz.underlying55 info9 rfl (by decide) (by omega) qd qa pr _ _ _ (fun k_ => some k_ ≠ (.slice pK pp.length pL : Value).ownBlock ∧ some k_ ≠ (.slice pM pr.length pN : Value).ownBlock ∧ some k_ ≠ (pR : Value).ownBlock) (fun _ => False) rfl rfl ?aO ?aR (fun _ _ h => h) (fun _ h => h.elim) ?aF ?aB ?aS ?aL ?_;(case aR => exact C_ (Kd.R_reads' px.out).2.2);(case aB => exact (bel_ HB.out));(case aF => exact (fun k_ hk => ⟨Kd.fresh' (Kd.R_lt (R_ pw.out)) k_ hk, Kd.fresh' (Kd.R_lt (R_ px.out)) k_ hk, Kd.fresh' (Kd.R_lt (R_ pQ.out)) k_ hk⟩));(case aO => exact (Kd.R_mono pO.out (fun _ hk => ⟨hk.1.1.2, ⟨hk.1.2, hk.2⟩⟩)));(case aS => exact (below_size (bel_ HB.out)));(case aL => have := LMc92.out; omega);intro p4 w103 ho hb hg hat;rw [← Ny670.out] at ho;have n0_ := am_ (Kd.R_after (ok := (fun k_ => some k_ ≠ (.slice pM pr.length pN : Value).ownBlock ∧ some k_ ≠ (pR : Value).ownBlock)) (R_ pw.out) hg hat);have n1_ := am_ (Kd.R_after (ok := (fun k_ => some k_ ≠ (.slice pK pp.length pL : Value).ownBlock ∧ some k_ ≠ (pR : Value).ownBlock)) (R_ px.out) hg hat);have n2_ := am_ (Kd.R_over' (R_ pf.out) (Kd.R_typed (R_ pO.out)) (by decide) hg);have n3_ := am_ (Kd.R_over' (R_ pj.out) (Kd.R_typed (R_ pO.out)) (by decide) hg);have n4_ := am_ (Kd.R_over' (R_ pg.out) (Kd.R_typed (R_ pO.out)) (by decide) hg);have n5_ := am_ (Kd.V_afterv (ok := (fun k_ => some k_ ≠ (.slice pK pp.length pL : Value).ownBlock ∧ some k_ ≠ (.slice pM pr.length pN : Value).ownBlock ∧ some k_ ≠ (.slice (some pl) pa.length pB : Value).ownBlock ∧ some k_ ≠ (pR : Value).ownBlock ∧ k_ ≠ pi ∧ k_ ≠ po ∧ k_ ≠ pd)) (by (with_reducible repeat (first | apply Kd.V_alloc | apply Kd.V_drewN | apply Kd.V_drew)); exact Kd.V_mono pk.out (fun _ hk => ⟨⟨hk.1.1.1, ⟨hk.1.1.2.1, ⟨hk.1.1.2.2.1, ⟨hk.1.2, ⟨hk.1.1.2.2.2.1, ⟨hk.1.1.2.2.2.2.1, hk.1.1.2.2.2.2.2⟩⟩⟩⟩⟩⟩, hk.2⟩)) hg hat);have n6_ := am_ (Kd.V_afterv (ok := (fun k_ => some k_ ≠ (.slice pK pp.length pL : Value).ownBlock ∧ some k_ ≠ (.slice pM pr.length pN : Value).ownBlock ∧ some k_ ≠ (.slice (some pl) pa.length pB : Value).ownBlock ∧ some k_ ≠ (pR : Value).ownBlock ∧ k_ ≠ pi ∧ k_ ≠ po ∧ k_ ≠ pd)) (by (with_reducible repeat (first | apply Kd.V_alloc | apply Kd.V_drewN | apply Kd.V_drew)); exact Kd.V_mono ph.out (fun _ hk => ⟨⟨hk.1.1.1, ⟨hk.1.1.2.1, ⟨hk.1.1.2.2.1, ⟨hk.1.2, ⟨hk.1.1.2.2.2.1, ⟨hk.1.1.2.2.2.2.1, hk.1.1.2.2.2.2.2⟩⟩⟩⟩⟩⟩, hk.2⟩)) hg hat);have n7_ := am_ (blk_grown pc.out hg (Kd.R_ne pO.out pc.out (by decide)));have n8_ := am_ (blk_grown pe.out hg (Kd.R_ne pO.out pe.out (by decide)));have n9_ := am_ (blk_grown pb.out hg (Kd.R_ne pO.out pb.out (by decide)));have n10_ := am_ (Kd.R_after (ok := (fun k_ => some k_ ≠ (.slice pK pp.length pL : Value).ownBlock ∧ some k_ ≠ (.slice pM pr.length pN : Value).ownBlock)) (Kd.R_mono pQ.out (fun _ hk => ⟨⟨hk.1.1.2, hk.1.2⟩, hk.2⟩)) hg hat);have n11_ := am_ (hb);have n12_ := am_ (ho);clear pw px pf pj pg pk ph pc pe pb pQ HB pO;have pw := n0_;have px := n1_;have pf := n2_;have pj := n3_;have pg := n4_;have pk := n5_;have ph := n6_;have pc := n7_;have pe := n8_;have pb := n9_;have pQ := n10_;have HB := n11_;have pZ := n12_;clear n0_ n1_ n2_ n3_ n4_ n5_ n6_ n7_ n8_ n9_ n10_ n11_ n12_ ho hb hg hat;refine hK.out _ _ ⟨(blk_cell pb.out 0).trans rfl, (blk_cell pb.out 1).trans rfl, (blk_cell pb.out 2).trans rfl, (blk_cell pb.out 3).trans rfl, (blk_cell pb.out 4).trans rfl, (blk_cell pb.out 5).trans rfl, (blk_cell pb.out 6).trans rfl, (blk_cell pb.out 7).trans rfl⟩ (fun hHeld => ?_);clear hK K;refine norm_ (a' := ?_) ?_ ?_;rotate_left
                       ·show Act.put _ (some 118) _ = _
                        simp only [Act.put, sx_, s0_, s1_, i64_w, i32_w];rfl
                       exact norm_ (by simp only [putAll, Act.put, List.setIfInBounds_toArray, List.set_cons_zero, List.set_cons_succ]) (hCont (qd, p4, pR) _ ⟨hHeld, (Kd.R_mono pZ.out (fun _ hk => ⟨hk.2.2, ⟨hk.2.1, hk.1⟩⟩)), (Kd.R_mono pQ.out (fun _ hk => ⟨hk.2, ⟨hk.1.2, hk.1.1⟩⟩)), (Kd.R_mono px.out (fun _ hk => ⟨hk.2, ⟨hk.1.2, hk.1.1⟩⟩)), (R_ pf.out), (R_ pj.out), (R_ pg.out), (by (with_reducible repeat (first | apply Kd.V_alloc | apply Kd.V_drewN | apply Kd.V_drew)); exact Kd.V_mono pk.out (fun _ hk => ⟨hk.2, ⟨hk.1.2.2.2.1, ⟨hk.1.2.1, ⟨hk.1.2.2.1, ⟨hk.1.1, ⟨hk.1.2.2.2.2.1, ⟨hk.1.2.2.2.2.2.1, hk.1.2.2.2.2.2.2⟩⟩⟩⟩⟩⟩⟩)), (by (with_reducible repeat (first | apply Kd.V_alloc | apply Kd.V_drewN | apply Kd.V_drew)); exact Kd.V_mono ph.out (fun _ hk => ⟨hk.2, ⟨hk.1.2.2.2.1, ⟨hk.1.2.1, ⟨hk.1.2.2.1, ⟨hk.1.1, ⟨hk.1.2.2.2.2.1, ⟨hk.1.2.2.2.2.2.1, hk.1.2.2.2.2.2.2⟩⟩⟩⟩⟩⟩⟩)), (Kd.R_mono pw.out (fun _ hk => ⟨hk.2, ⟨hk.1.2, hk.1.1⟩⟩)), (blk_ pc.out), (blk_ pe.out), (blk_ pb.out), (bel_ HB.out)⟩)
                     rintro ⟨qd, p4, pR⟩ w104 ⟨hS_, h0_, h1_, h2_, h3_, h4_, h5_, h6_, h7_, h8_, h9_, h10_, h11_, h12_⟩;have n0_ : Aside0 (Kd.R Kd.string 9 w104 w.heap.size (fun k_ => some k_ ≠ (pR : Value).ownBlock ∧ some k_ ≠ (.slice pM pr.length pN : Value).ownBlock ∧ some k_ ≠ (.slice pK pp.length pL : Value).ownBlock) p4 p3) := ⟨h0_⟩;have n1_ : Aside0 (Kd.R Kd.string 9 w104 w.heap.size (fun k_ => some k_ ≠ (p4 : Value).ownBlock ∧ some k_ ≠ (.slice pM pr.length pN : Value).ownBlock ∧ some k_ ≠ (.slice pK pp.length pL : Value).ownBlock) pR pV) := ⟨h1_⟩;have n2_ : Aside0 (Kd.R Kd.string 9 w104 w.heap.size (fun k_ => some k_ ≠ (p4 : Value).ownBlock ∧ some k_ ≠ (pR : Value).ownBlock ∧ some k_ ≠ (.slice pK pp.length pL : Value).ownBlock) (.slice pM pr.length pN) pr) := ⟨h2_⟩;have n3_ : Aside0 (Kd.R k26 26 w104 w.heap.size (fun k_ => k_ ≠ pd) (.slice (some pl) pa.length pB) pa) := ⟨h3_⟩;have n4_ : Aside0 (Kd.R k59 59 w104 w.heap.size (fun k_ => some k_ ≠ (.slice pG pm.length pH : Value).ownBlock) (.slice pI pn.length pJ) pn) := ⟨h4_⟩;have n5_ : Aside0 (Kd.R k59 59 w104 w.heap.size (fun k_ => some k_ ≠ (.slice pI pn.length pJ : Value).ownBlock) (.slice pG pm.length pH) pm) := ⟨h5_⟩;have n6_ : Aside0 (Kd.V k59 59 w104 w.heap.size (fun k_ => some k_ ≠ (p4 : Value).ownBlock ∧ some k_ ≠ (pR : Value).ownBlock ∧ some k_ ≠ (.slice pM pr.length pN : Value).ownBlock ∧ some k_ ≠ (.slice (some pl) pa.length pB : Value).ownBlock ∧ some k_ ≠ (.slice pK pp.length pL : Value).ownBlock ∧ k_ ≠ pi ∧ k_ ≠ po ∧ k_ ≠ pd) (.slice pW pt.length pX) pt) := ⟨h6_⟩;have n7_ : Aside0 (Kd.V k59 59 w104 w.heap.size (fun k_ => some k_ ≠ (p4 : Value).ownBlock ∧ some k_ ≠ (pR : Value).ownBlock ∧ some k_ ≠ (.slice pM pr.length pN : Value).ownBlock ∧ some k_ ≠ (.slice (some pl) pa.length pB : Value).ownBlock ∧ some k_ ≠ (.slice pK pp.length pL : Value).ownBlock ∧ k_ ≠ pi ∧ k_ ≠ po ∧ k_ ≠ pd) (.slice pT pq.length pU) pq) := ⟨h7_⟩;have n8_ : Aside0 (Kd.R Kd.string 9 w104 w.heap.size (fun k_ => some k_ ≠ (p4 : Value).ownBlock ∧ some k_ ≠ (pR : Value).ownBlock ∧ some k_ ≠ (.slice pM pr.length pN : Value).ownBlock) (.slice pK pp.length pL) pp) := ⟨h8_⟩;have n9_ : Aside0 (w104.heap[pi]? = some (.cells #[.slice (some pl) pa.length pB, .int .i64 ps, .string pu, .string pv, .string pz, .string pA, .slice pI pn.length pJ, .slice pG pm.length pH, .bool pD] 35 (0, 0))) := ⟨h9_⟩;have n10_ : Aside0 (w104.heap[po]? = some (.cells #[.string pC, .string pE, .string pF, .slice pW pt.length pX, .slice pT pq.length pU] 33 (0, 0))) := ⟨h10_⟩;have n11_ : Aside0 (w104.heap[pd]? = some (.cells #[.int .i64 ((rd_T26 pa x5_1).f0), .string ((rd_T26 pa x5_1).f1), .string ((rd_T26 pa x5_1).f2), .string ((rd_T26 pa x5_1).f3), .int .i64 ((rd_T26 pa x5_1).f4), .string ((rd_T26 pa x5_1).f5), .bool ((rd_T26 pa x5_1).f6), .int .i64 ((rd_T26 pa x5_1).f7)] 26 (0, 0))) := ⟨h11_⟩;have n12_ : Aside0 (Below w.heap.size w w104) := ⟨h12_⟩;clear pw px pf pj pg pk ph pc pe pb HB h0_ h1_ h2_ h3_ h4_ h5_ h6_ h7_ h8_ h9_ h10_ h11_ h12_;have pZ := n0_;have pQ := n1_;have px := n2_;have pf := n3_;have pj := n4_;have pg := n5_;have pk := n6_;have ph := n7_;have pw := n8_;have pc := n9_;have pe := n10_;have pb := n11_;have HB := n12_;clear n0_ n1_ n2_ n3_ n4_ n5_ n6_ n7_ n8_ n9_ n10_ n11_ n12_;have hHeld : w104.cell? ⟨pd, 0, none⟩ = some (.int .i64 ((rd_T26 pa x5_1).f0)) ∧ w104.cell? ⟨pd, 1, none⟩ = some (.string ((rd_T26 pa x5_1).f1)) ∧ w104.cell? ⟨pd, 2, none⟩ = some (.string ((rd_T26 pa x5_1).f2)) ∧ w104.cell? ⟨pd, 3, none⟩ = some (.string ((rd_T26 pa x5_1).f3)) ∧ w104.cell? ⟨pd, 4, none⟩ = some (.int .i64 ((rd_T26 pa x5_1).f4)) ∧ w104.cell? ⟨pd, 5, none⟩ = some (.string ((rd_T26 pa x5_1).f5)) ∧ w104.cell? ⟨pd, 6, none⟩ = some (.bool ((rd_T26 pa x5_1).f6)) ∧ w104.cell? ⟨pd, 7, none⟩ = some (.int .i64 ((rd_T26 pa x5_1).f7)) := hS_;obtain ⟨qk, ql, eo106⟩ := Kd.R_slice pQ.out;(first | subst eo106 | (injection eo106 with f1_ f2_ f3_; have f4_ := f1_.symm; have f5_ := f3_.symm; clear f1_ f2_ f3_; subst f4_; subst f5_));refine norm_ (a' := ?_) ?_ ?_;rotate_left
                     ·simp only [putAll, Act.put, List.setIfInBounds_toArray, List.set_cons_zero, List.set_cons_succ]
                      rfl
                     refine one_ (i := 11) (N := some 122) #[true, true, true, true, true, true, true, true, true, true, true, true, false, false, false, false] rfl rfl (one_of HT_.out kr_) (by decide) (fun K hK => ?_);refine Kd.R_append_rows_step Kd.string (w0 := w) w.heap.size (by rfl) (.tmp 118) (.tmp 121) 55 9 (.string ⟨#[]⟩) 16 rfl Tryz.underlying55 info9 rfl (by decide) (by omega) p4 p3 pV _ _ _ (fun k_ => some k_ ≠ (.slice pK pp.length pL : Value).ownBlock ∧ some k_ ≠ (.slice pM pr.length pN : Value).ownBlock ∧ some k_ ≠ (.slice qk pV.length ql : Value).ownBlock) (fun _ => False) rfl rfl ?aO ?aR (fun _ _ h => h) (fun _ h => h.elim) ?aF ?aB ?aS ?aL ?_;(case aR => exact C_ (Kd.R_reads' pQ.out).2.2);(case aB => exact (bel_ HB.out));(case aF => exact (fun k_ hk => ⟨Kd.fresh' (Kd.R_lt (R_ pw.out)) k_ hk, Kd.fresh' (Kd.R_lt (R_ px.out)) k_ hk, Kd.fresh' (Kd.R_lt (R_ pQ.out)) k_ hk⟩));(case aO => exact (Kd.R_mono pZ.out (fun _ hk => ⟨hk.2.2, ⟨hk.2.1, hk.1⟩⟩)));(case aS => exact (below_size (bel_ HB.out)));(case aL => have := LMc93.out; omega);intro qP w105 ho hb hg hat;rw [← Ny676.out] at ho;have n0_ := am_ (Kd.R_after (ok := (fun k_ => some k_ ≠ (.slice pM pr.length pN : Value).ownBlock ∧ some k_ ≠ (.slice qk pV.length ql : Value).ownBlock)) (Kd.R_mono pw.out (fun _ hk => ⟨⟨hk.2.2, hk.2.1⟩, hk.1⟩)) hg hat);have n1_ := am_ (Kd.R_after (ok := (fun k_ => some k_ ≠ (.slice pK pp.length pL : Value).ownBlock ∧ some k_ ≠ (.slice qk pV.length ql : Value).ownBlock)) (Kd.R_mono px.out (fun _ hk => ⟨⟨hk.2.2, hk.2.1⟩, hk.1⟩)) hg hat);have n2_ := am_ (Kd.R_over' (R_ pf.out) (Kd.R_typed (R_ pZ.out)) (by decide) hg);have n3_ := am_ (Kd.R_over' (R_ pj.out) (Kd.R_typed (R_ pZ.out)) (by decide) hg);have n4_ := am_ (Kd.R_over' (R_ pg.out) (Kd.R_typed (R_ pZ.out)) (by decide) hg);have n5_ := am_ (Kd.V_afterv (ok := (fun k_ => some k_ ≠ (.slice pK pp.length pL : Value).ownBlock ∧ some k_ ≠ (.slice pM pr.length pN : Value).ownBlock ∧ some k_ ≠ (.slice (some pl) pa.length pB : Value).ownBlock ∧ some k_ ≠ (.slice qk pV.length ql : Value).ownBlock ∧ k_ ≠ pi ∧ k_ ≠ po ∧ k_ ≠ pd)) (by (with_reducible repeat (first | apply Kd.V_alloc | apply Kd.V_drewN | apply Kd.V_drew)); exact Kd.V_mono pk.out (fun _ hk => ⟨⟨hk.2.2.2.2.1, ⟨hk.2.2.1, ⟨hk.2.2.2.1, ⟨hk.2.1, ⟨hk.2.2.2.2.2.1, ⟨hk.2.2.2.2.2.2.1, hk.2.2.2.2.2.2.2⟩⟩⟩⟩⟩⟩, hk.1⟩)) hg hat);have n6_ := am_ (Kd.V_afterv (ok := (fun k_ => some k_ ≠ (.slice pK pp.length pL : Value).ownBlock ∧ some k_ ≠ (.slice pM pr.length pN : Value).ownBlock ∧ some k_ ≠ (.slice (some pl) pa.length pB : Value).ownBlock ∧ some k_ ≠ (.slice qk pV.length ql : Value).ownBlock ∧ k_ ≠ pi ∧ k_ ≠ po ∧ k_ ≠ pd)) (by (with_reducible repeat (first | apply Kd.V_alloc | apply Kd.V_drewN | apply Kd.V_drew)); exact Kd.V_mono ph.out (fun _ hk => ⟨⟨hk.2.2.2.2.1, ⟨hk.2.2.1, ⟨hk.2.2.2.1, ⟨hk.2.1, ⟨hk.2.2.2.2.2.1, ⟨hk.2.2.2.2.2.2.1, hk.2.2.2.2.2.2.2⟩⟩⟩⟩⟩⟩, hk.1⟩)) hg hat);have n7_ := am_ (blk_grown pc.out hg (Kd.R_ne pZ.out pc.out (by decide)));have n8_ := am_ (blk_grown pe.out hg (Kd.R_ne pZ.out pe.out (by decide)));have n9_ := am_ (blk_grown pb.out hg (Kd.R_ne pZ.out pb.out (by decide)));have n10_ := am_ (Kd.R_after (ok := (fun k_ => some k_ ≠ (.slice pK pp.length pL : Value).ownBlock ∧ some k_ ≠ (.slice pM pr.length pN : Value).ownBlock)) (Kd.R_mono pQ.out (fun _ hk => ⟨⟨hk.2.2, hk.2.1⟩, hk.1⟩)) hg hat);have n11_ := am_ (hb);have n12_ := am_ (ho);clear pw px pf pj pg pk ph pc pe pb pQ HB pZ;have pw := n0_;have px := n1_;have pf := n2_;have pj := n3_;have pg := n4_;have pk := n5_;have ph := n6_;have pc := n7_;have pe := n8_;have pb := n9_;have pQ := n10_;have HB := n11_;have qp := n12_;clear n0_ n1_ n2_ n3_ n4_ n5_ n6_ n7_ n8_ n9_ n10_ n11_ n12_ ho hb hg hat;obtain ⟨qB, qC, eo107⟩ := Kd.R_slice qp.out;(first | subst eo107 | (injection eo107 with f1_ f2_ f3_; have f4_ := f1_.symm; have f5_ := f3_.symm; clear f1_ f2_ f3_; subst f4_; subst f5_));refine hK.out _ _ ⟨(blk_cell pb.out 0).trans rfl, (blk_cell pb.out 1).trans rfl, (blk_cell pb.out 2).trans rfl, (blk_cell pb.out 3).trans rfl, (blk_cell pb.out 4).trans rfl, (blk_cell pb.out 5).trans rfl, (blk_cell pb.out 6).trans rfl, (blk_cell pb.out 7).trans rfl⟩ (fun hHeld => ?_);clear hK K;refine norm_ (a' := ?_) ?_ ?_;rotate_left
                     ·show Act.put _ (some 122) _ = _
                      simp only [Act.put, sx_, s0_, s1_, i64_w, i32_w];rfl
                     refine one_ (i := 12) (N := some 123) #[true, true, true, true, true, true, true, true, true, true, true, true, true, false, false, false] rfl rfl (one_of HT_.out kr_) (by decide) (fun K hK => ?_);refine goes_ Tryz.func25 kr_ rfl #[.slice pK pp.length pL, .slice qB qo.length qC] (by rfl) rfl rfl rl_ ?_;with_reducible refine (tollref01_Same.calls kj80 _ _ pp _ _ qo true _ ?side1 ?side2 ?side3 ?side4 A94.out).mono ?_;(case side1 => exact C_ (Kd.R_reads' pw.out).2.2);(case side2 => exact (Kd.R_reads' pw.out).2.1);(case side3 => exact C_ (Kd.R_reads' qp.out).2.2);(case side4 => exact (Kd.R_reads' qp.out).2.1);rintro e w' ⟨rfl, ⟨nd, rfl⟩⟩;refine ⟨_, rfl, ?_⟩;refine hK.out _ _ ⟨(blk_cell (blk_drewN pb.out nd) 0).trans rfl, (blk_cell (blk_drewN pb.out nd) 1).trans rfl, (blk_cell (blk_drewN pb.out nd) 2).trans rfl, (blk_cell (blk_drewN pb.out nd) 3).trans rfl, (blk_cell (blk_drewN pb.out nd) 4).trans rfl, (blk_cell (blk_drewN pb.out nd) 5).trans rfl, (blk_cell (blk_drewN pb.out nd) 6).trans rfl, (blk_cell (blk_drewN pb.out nd) 7).trans rfl⟩ (fun hHeld => ?_);clear hK K;refine norm_ (a' := ?_) ?_ ?_;rotate_left
                     ·show Act.put _ (some 123) _ = _
                      simp only [Act.put, sx_, s0_, s1_, i64_w, i32_w];rfl
                     refine pure_ (i := 13) (N := some 124) (v := ?_) (a' := ?_) #[true, true, true, true, true, true, true, true, true, true, true, true, true, true, false, false] rfl rfl (any_of HT_.out kr_) (fun _ _ _ h => h) (Or.inl ⟨by rfl, ?_⟩) ?_ ?_;rotate_left
                     ·intro w'
                      go_simp
                      with_reducible rfl
                     rotate_left
                     ·simp only [Act.put, sx_, s0_, s1_, i64_w, i32_w]
                      rfl
                     refine pure_ (i := 14) (N := some 125) (v := ?_) (a' := ?_) #[true, true, true, true, true, true, true, true, true, true, true, true, true, true, true, false] rfl rfl (any_of HT_.out kr_) (fun _ _ _ h => h) (Or.inl ⟨by rfl, ?_⟩) ?_ ?_;rotate_left
                     ·intro w'
                      go_simp
                      with_reducible rfl
                     rotate_left
                     ·simp only [Act.put, sx_, s0_, s1_, i64_w, i32_w]
                      rfl
                     refine pure_ (i := 15) (N := some 110) (v := ?_) (a' := ?_) #[true, true, true, true, true, true, true, true, true, true, true, true, true, true, true, true] rfl rfl (any_of HT_.out kr_) (fun _ _ _ h => h) (Or.inl ⟨by rfl, ?_⟩) ?_ ?_;rotate_left
                     ·intro w'
                      go_simp
                      with_reducible rfl
                     rotate_left
                     ·simp only [Act.put, sx_, s0_, s1_, i64_w, i32_w]
                      rfl
                     refine done_ (done_of HT_.out kr_) ?_;try go_wp2
                     go_roundg kj80
                     case measure => have := HK1.out; have := HK2.out; have := HJ60.out; have := HJ80.out; omega
                     case rel => exact ⟨(wrap64 (x5_1 + 1)), sd_, H', ⟨by have := HK1.out; have := HK2.out; have := HJ60.out; have := HJ80.out; omega⟩, ⟨by (with_reducible repeat (first | apply Kd.R_alloc | apply Kd.R_drewN | apply Kd.R_drew)); exact Kd.R_mono pf.out (fun _ hk => trivial)⟩, ⟨by (with_reducible repeat (first | apply Kd.R_alloc | apply Kd.R_drewN | apply Kd.R_drew)); exact pj.out⟩, ⟨by (with_reducible repeat (first | apply Kd.R_alloc | apply Kd.R_drewN | apply Kd.R_drew)); exact pg.out⟩, ⟨by (with_reducible repeat (first | apply Kd.V_alloc | apply Kd.V_drewN | apply Kd.V_drew)); exact Kd.V_mono pk.out (fun _ hk => ⟨hk.1.2.2.1, ⟨hk.1.2.2.2.2.1, hk.1.2.2.2.2.2.1⟩⟩)⟩, ⟨by (with_reducible repeat (first | apply Kd.V_alloc | apply Kd.V_drewN | apply Kd.V_drew)); exact Kd.V_mono ph.out (fun _ hk => ⟨hk.1.2.2.1, ⟨hk.1.2.2.2.2.1, hk.1.2.2.2.2.2.1⟩⟩)⟩, ⟨by (with_reducible repeat (first | refine blk_drewN ?_ _ | refine blk_drew ?_ | refine blk_alloc ?_ _)); exact pc.out⟩, ⟨by (with_reducible repeat (first | refine blk_drewN ?_ _ | refine blk_drew ?_ | refine blk_alloc ?_ _)); exact pe.out⟩, ⟨bel_ HB.out⟩⟩
                    ·replace c95 := Bool.eq_false_iff.mpr c95
                     subst c95;have H1 : (none) = some r := by rw [if_neg (show ¬ (false = true) by decide)] at H; exact H
                     clear H;have H := H1;clear H1;exact absurd H (by simp)
                   ·rw [if_neg c93] at H
                    exact absurd H (by simp)
                  ·rw [if_neg c92] at H
                   exact absurd H (by simp)
                 ·rw [if_neg c91] at H
                  have c91b0 : (((rd_T26 pa x5_1).f0) == 2) = false := beq_eq_false_iff_ne.mpr c91;have c91b1 : (((rd_T26 pa x5_1).f0) != 2) = true := bne_iff_ne.mpr c91;have H' := Aside0.mk H;clear H;try go_wp2
                  have n0_ := am_ (Kd.R_drew pw.out);have n1_ := am_ (Kd.R_drew px.out);have n2_ := am_ (Kd.R_drew pf.out);have n3_ := am_ (Kd.R_drew pj.out);have n4_ := am_ (Kd.R_drew pg.out);have n5_ := am_ (Kd.V_drew pk.out);have n6_ := am_ (Kd.V_drew ph.out);have n7_ := am_ (blk_drew pc.out);have n8_ := am_ (blk_drew pe.out);have n9_ := am_ (blk_drew pb.out);have n10_ := am_ (below_drew1 HB.out);clear pw px pf pj pg pk ph pc pe pb HB;have pw := n0_;have px := n1_;have pf := n2_;have pj := n3_;have pg := n4_;have pk := n5_;have ph := n6_;have pc := n7_;have pe := n8_;have pb := n9_;have HB := n10_;clear n0_ n1_ n2_ n3_ n4_ n5_ n6_ n7_ n8_ n9_ n10_;refine start_ (n := 16) (S := fun w' => w'.cell? ⟨pd, 0, none⟩ = some (.int .i64 ((rd_T26 pa x5_1).f0)) ∧ w'.cell? ⟨pd, 1, none⟩ = some (.string ((rd_T26 pa x5_1).f1)) ∧ w'.cell? ⟨pd, 2, none⟩ = some (.string ((rd_T26 pa x5_1).f2)) ∧ w'.cell? ⟨pd, 3, none⟩ = some (.string ((rd_T26 pa x5_1).f3)) ∧ w'.cell? ⟨pd, 4, none⟩ = some (.int .i64 ((rd_T26 pa x5_1).f4)) ∧ w'.cell? ⟨pd, 5, none⟩ = some (.string ((rd_T26 pa x5_1).f5)) ∧ w'.cell? ⟨pd, 6, none⟩ = some (.bool ((rd_T26 pa x5_1).f6)) ∧ w'.cell? ⟨pd, 7, none⟩ = some (.int .i64 ((rd_T26 pa x5_1).f7))) (ds := []) #[false, false, false, false, false, false, false, false, false, false, false, false, false, false, false, false] kr_ rfl rfl ⟨(blk_cell pb.out 0).trans rfl, (blk_cell pb.out 1).trans rfl, (blk_cell pb.out 2).trans rfl, (blk_cell pb.out 3).trans rfl, (blk_cell pb.out 4).trans rfl, (blk_cell pb.out 5).trans rfl, (blk_cell pb.out 6).trans rfl, (blk_cell pb.out 7).trans rfl⟩ (fun hHeld => ?_); refine with_tabW tolllaw07_FilterFields_g2.tab21 tolllaw07_FilterFields_g2.bits21 (fun HT_ HW_ => ?_);generalize wc.drew = w108 at pw px pf pj pg pk ph pc pe pb HB hHeld ⊢;refine pure_ (i := 0) (N := some 111) (v := ?_) (a' := ?_) #[true, false, false, false, false, false, false, false, false, false, false, false, false, false, false, false] rfl rfl (any_of HT_.out kr_) (fun _ _ _ h => h) (Or.inl ⟨by rfl, ?_⟩) ?_ ?_;rotate_left
                  ·intro w'
                   go_simp
                   with_reducible rfl
                  rotate_left
                  ·simp only [Act.put, sx_, s0_, s1_, i64_w, i32_w]
                   rfl
                  refine take_ (i := 1) (N := some 112) (v := ?_) (a' := ?_) #[true, true, false, false, false, false, false, false, false, false, false, false, false, false, false, false] rfl rfl (take_ofW HT_.out HW_.out kr_) (fun _ _ _ h => h) (Or.inl ⟨by rfl, ?_⟩) hHeld ?_ ?_;rotate_left
                  ·rintro w' ⟨s0, s1, s2, s3, s4, s5, s6, s7⟩
                   go_simp
                   with_reducible rfl
                  rotate_left
                  ·simp only [Act.put, sx_, s0_, s1_, i64_w, i32_w]
                   rfl
                  refine pure_ (i := 2) (N := some 113) (v := ?_) (a' := ?_) #[true, true, true, false, false, false, false, false, false, false, false, false, false, false, false, false] rfl rfl (any_of HT_.out kr_) (fun _ _ _ h => h) (Or.inl ⟨by rfl, ?_⟩) ?_ ?_;rotate_left
                  ·intro w'
                   go_simp
                   with_reducible rfl
                  rotate_left
                  ·simp only [Act.put, sx_, s0_, s1_, i64_w, i32_w]
                   rfl
                  refine pure_ (i := 3) (N := some 114) (v := ?_) (a' := ?_) #[true, true, true, true, false, false, false, false, false, false, false, false, false, false, false, false] rfl rfl (any_of HT_.out kr_) (fun _ _ _ h => h) (Or.inl ⟨by rfl, ?_⟩) ?_ ?_;rotate_left
                  ·intro w'
                   go_simp
                   with_reducible rfl
                  rotate_left
                  ·simp only [Act.put, sx_, s0_, s1_, i64_w, i32_w]
                   rfl
                  refine pure_ (i := 4) (N := some 115) (v := undef) (a' := ?_) #[true, true, true, true, true, false, false, false, false, false, false, false, false, false, false, false] rfl rfl (any_of HT_.out kr_) (fun _ _ _ h => h) (Or.inr ⟨by rfl, rfl⟩) ?_ ?_;rotate_left
                  ·simp only [Act.put, sx_, s0_, s1_, i64_w, i32_w]
                   rfl
                  refine pure_ (i := 5) (N := some 116) (v := undef) (a' := ?_) #[true, true, true, true, true, true, false, false, false, false, false, false, false, false, false, false] rfl rfl (any_of HT_.out kr_) (fun _ _ _ h => h) (Or.inr ⟨by rfl, rfl⟩) ?_ ?_;rotate_left
                  ·simp only [Act.put, sx_, s0_, s1_, i64_w, i32_w]
                   rfl
                  refine pure_ (i := 6) (N := some 117) (v := undef) (a' := ?_) #[true, true, true, true, true, true, true, false, false, false, false, false, false, false, false, false] rfl rfl (any_of HT_.out kr_) (fun _ _ _ h => h) (Or.inr ⟨by rfl, rfl⟩) ?_ ?_;rotate_left
                  ·simp only [Act.put, sx_, s0_, s1_, i64_w, i32_w]
                   rfl
                  refine pure_ (i := 7) (N := some 118) (v := undef) (a' := ?_) #[true, true, true, true, true, true, true, true, false, false, false, false, false, false, false, false] rfl rfl (any_of HT_.out kr_) (fun _ _ _ h => h) (Or.inr ⟨by rfl, rfl⟩) ?_ ?_;rotate_left
                  ·simp only [Act.put, sx_, s0_, s1_, i64_w, i32_w]
                   rfl
                  refine pure_ (i := 8) (N := some 119) (v := undef) (a' := ?_) #[true, true, true, true, true, true, true, true, true, false, false, false, false, false, false, false] rfl rfl (any_of HT_.out kr_) (fun _ _ _ h => h) (Or.inr ⟨by rfl, rfl⟩) ?_ ?_;rotate_left
                  ·simp only [Act.put, sx_, s0_, s1_, i64_w, i32_w]
                   rfl
                  refine pure_ (i := 9) (N := some 120) (v := undef) (a' := ?_) #[true, true, true, true, true, true, true, true, true, true, false, false, false, false, false, false] rfl rfl (any_of HT_.out kr_) (fun _ _ _ h => h) (Or.inr ⟨by rfl, rfl⟩) ?_ ?_;rotate_left
                  ·simp only [Act.put, sx_, s0_, s1_, i64_w, i32_w]
                   rfl
                  refine pure_ (i := 10) (N := some 121) (v := undef) (a' := ?_) #[true, true, true, true, true, true, true, true, true, true, true, false, false, false, false, false] rfl rfl (any_of HT_.out kr_) (fun _ _ _ h => h) (Or.inr ⟨by rfl, rfl⟩) ?_ ?_;rotate_left
                  ·simp only [Act.put, sx_, s0_, s1_, i64_w, i32_w]
                   rfl
                  refine pure_ (i := 11) (N := some 122) (v := undef) (a' := ?_) #[true, true, true, true, true, true, true, true, true, true, true, true, false, false, false, false] rfl rfl (any_of HT_.out kr_) (fun _ _ _ h => h) (Or.inr ⟨by rfl, rfl⟩) ?_ ?_;rotate_left
                  ·simp only [Act.put, sx_, s0_, s1_, i64_w, i32_w]
                   rfl
                  refine pure_ (i := 12) (N := some 123) (v := undef) (a' := ?_) #[true, true, true, true, true, true, true, true, true, true, true, true, true, false, false, false] rfl rfl (any_of HT_.out kr_) (fun _ _ _ h => h) (Or.inr ⟨by rfl, rfl⟩) ?_ ?_;rotate_left
                  ·simp only [Act.put, sx_, s0_, s1_, i64_w, i32_w]
                   rfl
                  refine pure_ (i := 13) (N := some 124) (v := undef) (a' := ?_) #[true, true, true, true, true, true, true, true, true, true, true, true, true, true, false, false] rfl rfl (any_of HT_.out kr_) (fun _ _ _ h => h) (Or.inr ⟨by rfl, rfl⟩) ?_ ?_;rotate_left
                  ·simp only [Act.put, sx_, s0_, s1_, i64_w, i32_w]
                   rfl
                  refine pure_ (i := 14) (N := some 125) (v := ?_) (a' := ?_) #[true, true, true, true, true, true, true, true, true, true, true, true, true, true, true, false] rfl rfl (any_of HT_.out kr_) (fun _ _ _ h => h) (Or.inl ⟨by rfl, ?_⟩) ?_ ?_;rotate_left
                  ·intro w'
                   go_simp
                   with_reducible rfl
                  rotate_left
                  ·simp only [Act.put, sx_, s0_, s1_, i64_w, i32_w]
                   rfl
                  refine pure_ (i := 15) (N := some 110) (v := ?_) (a' := ?_) #[true, true, true, true, true, true, true, true, true, true, true, true, true, true, true, true] rfl rfl (any_of HT_.out kr_) (fun _ _ _ h => h) (Or.inl ⟨by rfl, ?_⟩) ?_ ?_;rotate_left
                  ·intro w'
                   go_simp
                   with_reducible rfl
                  rotate_left
                  ·simp only [Act.put, sx_, s0_, s1_, i64_w, i32_w]
                   rfl
                  refine done_ (done_of HT_.out kr_) ?_;try go_wp2
                  go_roundg kj80
                  case measure => have := HK1.out; have := HK2.out; have := HJ60.out; have := HJ80.out; omega
                  case rel => exact ⟨(wrap64 (x5_1 + 1)), sd_, H', ⟨by have := HK1.out; have := HK2.out; have := HJ60.out; have := HJ80.out; omega⟩, ⟨by (with_reducible repeat (first | apply Kd.R_alloc | apply Kd.R_drewN | apply Kd.R_drew)); exact Kd.R_mono pf.out (fun _ hk => trivial)⟩, ⟨by (with_reducible repeat (first | apply Kd.R_alloc | apply Kd.R_drewN | apply Kd.R_drew)); exact pj.out⟩, ⟨by (with_reducible repeat (first | apply Kd.R_alloc | apply Kd.R_drewN | apply Kd.R_drew)); exact pg.out⟩, ⟨by (with_reducible repeat (first | apply Kd.V_alloc | apply Kd.V_drewN | apply Kd.V_drew)); exact Kd.V_mono pk.out (fun _ hk => ⟨hk.2.2.1, ⟨hk.2.2.2.1, hk.2.2.2.2.1⟩⟩)⟩, ⟨by (with_reducible repeat (first | apply Kd.V_alloc | apply Kd.V_drewN | apply Kd.V_drew)); exact Kd.V_mono ph.out (fun _ hk => ⟨hk.2.2.1, ⟨hk.2.2.2.1, hk.2.2.2.2.1⟩⟩)⟩, ⟨by (with_reducible repeat (first | refine blk_drewN ?_ _ | refine blk_drew ?_ | refine blk_alloc ?_ _)); exact pc.out⟩, ⟨by (with_reducible repeat (first | refine blk_drewN ?_ _ | refine blk_drew ?_ | refine blk_alloc ?_ _)); exact pe.out⟩, ⟨bel_ HB.out⟩⟩
          ·replace c60 := Bool.eq_false_iff.mpr c60
           subst c60;have H1 : (tolllaw07_FilterFields_g2.l0 k2 (wrap64 (x5_1 + 1)) pa ps pu pv pz pA pn pm pD pC pE pF pt pq) = some r := by rw [if_neg (show ¬ (false = true) by decide)] at H; exact H
           clear H;have H := H1;clear H1;have H' := Aside0.mk H;clear H;have hnb109 := NB623_649.out;have hnc109 := NB649_623.out;have hnb110 := NB623_653.out;have hnc110 := NB653_623.out;obtain ⟨hcz111_0, hcz111_1, hcz111_2, hcz111_3, hcz111_4, hcz111_5, hcz111_6, hcz111_7, hcz111_8, hfz111_0, hfz111_1, hfz111_2, hfz111_3, hfz111_4, hfz111_5, hfz111_6, hfz111_7, hfz111_8⟩ := blk9 pc.out;try go_wp2
           have n0_ := am_ (Kd.R_drew pf.out);have n1_ := am_ (Kd.R_drew pj.out);have n2_ := am_ (Kd.R_drew pg.out);have n3_ := am_ (Kd.V_drew pk.out);have n4_ := am_ (Kd.V_drew ph.out);have n5_ := am_ (blk_drew pc.out);have n6_ := am_ (blk_drew pe.out);have n7_ := am_ (blk_drew pb.out);have n8_ := am_ (below_drew1 HB.out);clear pf pj pg pk ph pc pe pb HB;have pf := n0_;have pj := n1_;have pg := n2_;have pk := n3_;have ph := n4_;have pc := n5_;have pe := n6_;have pb := n7_;have HB := n8_;clear n0_ n1_ n2_ n3_ n4_ n5_ n6_ n7_ n8_;refine start_ (n := 13) (S := fun w' => w'.cell? ⟨po, 0, none⟩ = some (.string pC) ∧ w'.cell? ⟨po, 1, none⟩ = some (.string pE) ∧ w'.cell? ⟨po, 2, none⟩ = some (.string pF) ∧ w'.cell? ⟨po, 3, none⟩ = some (.slice pW pt.length pX) ∧ w'.cell? ⟨po, 4, none⟩ = some (.slice pT pq.length pU) ∧ w'.cell? ⟨pd, 0, none⟩ = some (.int .i64 ((rd_T26 pa x5_1).f0)) ∧ w'.cell? ⟨pd, 1, none⟩ = some (.string ((rd_T26 pa x5_1).f1)) ∧ w'.cell? ⟨pd, 2, none⟩ = some (.string ((rd_T26 pa x5_1).f2)) ∧ w'.cell? ⟨pd, 3, none⟩ = some (.string ((rd_T26 pa x5_1).f3)) ∧ w'.cell? ⟨pd, 4, none⟩ = some (.int .i64 ((rd_T26 pa x5_1).f4)) ∧ w'.cell? ⟨pd, 5, none⟩ = some (.string ((rd_T26 pa x5_1).f5)) ∧ w'.cell? ⟨pd, 6, none⟩ = some (.bool ((rd_T26 pa x5_1).f6)) ∧ w'.cell? ⟨pd, 7, none⟩ = some (.int .i64 ((rd_T26 pa x5_1).f7)) ∧ w'.cell? ⟨pi, 0, none⟩ = some (.slice (some pl) pa.length pB) ∧ w'.cell? ⟨pi, 1, none⟩ = some (.int .i64 ps) ∧ w'.cell? ⟨pi, 2, none⟩ = some (.string pu) ∧ w'.cell? ⟨pi, 3, none⟩ = some (.string pv) ∧ w'.cell? ⟨pi, 4, none⟩ = some (.string pz) ∧ w'.cell? ⟨pi, 5, none⟩ = some (.string pA) ∧ w'.cell? ⟨pi, 6, none⟩ = some (.slice pI pn.length pJ) ∧ w'.cell? ⟨pi, 7, none⟩ = some (.slice pG pm.length pH) ∧ w'.cell? ⟨pi, 8, none⟩ = some (.bool pD)) (ds := []) #[false, false, false, false, false, false, false, false, false, false, false, false, false] kr_ rfl rfl ⟨(blk_cell pe.out 0).trans rfl, (blk_cell pe.out 1).trans rfl, (blk_cell pe.out 2).trans rfl, (blk_cell pe.out 3).trans rfl, (blk_cell pe.out 4).trans rfl, (blk_cell pb.out 0).trans rfl, (blk_cell pb.out 1).trans rfl, (blk_cell pb.out 2).trans rfl, (blk_cell pb.out 3).trans rfl, (blk_cell pb.out 4).trans rfl, (blk_cell pb.out 5).trans rfl, (blk_cell pb.out 6).trans rfl, (blk_cell pb.out 7).trans rfl, (blk_cell pc.out 0).trans rfl, (blk_cell pc.out 1).trans rfl, (blk_cell pc.out 2).trans rfl, (blk_cell pc.out 3).trans rfl, (blk_cell pc.out 4).trans rfl, (blk_cell pc.out 5).trans rfl, (blk_cell pc.out 6).trans rfl, (blk_cell pc.out 7).trans rfl, (blk_cell pc.out 8).trans rfl⟩ (fun hHeld => ?_); refine with_tabW tolllaw07_FilterFields_g2.tab15 tolllaw07_FilterFields_g2.bits15 (fun HT_ HW_ => ?_);generalize wr.drew = w112 at pf pj pg pk ph pc pe pb HB hHeld ⊢;refine pure_ (i := 0) (N := some 75) (v := ?_) (a' := ?_) #[true, false, false, false, false, false, false, false, false, false, false, false, false] rfl rfl (any_of HT_.out kr_) (fun _ _ _ h => h) (Or.inl ⟨by rfl, ?_⟩) ?_ ?_;rotate_left
           ·intro w'
            go_simp
            with_reducible rfl
           rotate_left
           ·simp only [Act.put, sx_, s0_, s1_, i64_w, i32_w]
            rfl
           refine pure_ (i := 2) (N := some 77) (v := ?_) (a' := ?_) #[true, false, true, false, false, false, false, false, false, false, false, false, false] rfl rfl (any_of HT_.out kr_) (fun _ _ _ h => h) (Or.inl ⟨by rfl, ?_⟩) ?_ ?_;rotate_left
           ·intro w'
            go_simp
            with_reducible rfl
           rotate_left
           ·simp only [Act.put, sx_, s0_, s1_, i64_w, i32_w]
            rfl
           refine pure_ (i := 5) (N := some 80) (v := ?_) (a' := ?_) #[true, false, true, false, false, true, false, false, false, false, false, false, false] rfl rfl (any_of HT_.out kr_) (fun _ _ _ h => h) (Or.inl ⟨by rfl, ?_⟩) ?_ ?_;rotate_left
           ·intro w'
            go_simp
            with_reducible rfl
           rotate_left
           ·simp only [Act.put, sx_, s0_, s1_, i64_w, i32_w]
            rfl
           refine pure_ (i := 6) (N := some 81) (v := ?_) (a' := ?_) #[true, false, true, false, false, true, true, false, false, false, false, false, false] rfl rfl (any_of HT_.out kr_) (fun _ _ _ h => h) (Or.inl ⟨by rfl, ?_⟩) ?_ ?_;rotate_left
           ·intro w'
            go_simp
            with_reducible rfl
           rotate_left
           ·simp only [Act.put, sx_, s0_, s1_, i64_w, i32_w]
            rfl
           refine pure_ (i := 8) (N := some 83) (v := ?_) (a' := ?_) #[true, false, true, false, false, true, true, false, true, false, false, false, false] rfl rfl (any_of HT_.out kr_) (fun _ _ _ h => h) (Or.inl ⟨by rfl, ?_⟩) ?_ ?_;rotate_left
           ·intro w'
            go_simp
            with_reducible rfl
           rotate_left
           ·simp only [Act.put, sx_, s0_, s1_, i64_w, i32_w]
            rfl
           refine take_ (i := 1) (N := some 76) (v := ?_) (a' := ?_) #[true, true, true, false, false, true, true, false, true, false, false, false, false] rfl rfl (take_ofW HT_.out HW_.out kr_) (fun _ _ _ h => h) (Or.inl ⟨by rfl, ?_⟩) hHeld ?_ ?_;rotate_left
           ·rintro w' ⟨s0, s1, s2, s3, s4, s5, s6, s7, s8, s9, s10, s11, s12, s13, s14, s15, s16, s17, s18, s19, s20, s21⟩
            go_simp
            with_reducible rfl
           rotate_left
           ·simp only [Act.put, sx_, s0_, s1_, i64_w, i32_w]
            rfl
           refine take_ (i := 3) (N := some 78) (v := ?_) (a' := ?_) #[true, true, true, true, false, true, true, false, true, false, false, false, false] rfl rfl (take_ofW HT_.out HW_.out kr_) (fun _ _ _ h => h) (Or.inl ⟨by rfl, ?_⟩) hHeld ?_ ?_;rotate_left
           ·rintro w' ⟨s0, s1, s2, s3, s4, s5, s6, s7, s8, s9, s10, s11, s12, s13, s14, s15, s16, s17, s18, s19, s20, s21⟩
            go_simp
            with_reducible rfl
           rotate_left
           ·simp only [Act.put, sx_, s0_, s1_, i64_w, i32_w]
            rfl
           refine take_ (i := 7) (N := some 82) (v := ?_) (a' := ?_) #[true, true, true, true, false, true, true, true, true, false, false, false, false] rfl rfl (take_ofW HT_.out HW_.out kr_) (fun _ _ _ h => h) (Or.inl ⟨by rfl, ?_⟩) hHeld ?_ ?_;rotate_left
           ·rintro w' ⟨s0, s1, s2, s3, s4, s5, s6, s7, s8, s9, s10, s11, s12, s13, s14, s15, s16, s17, s18, s19, s20, s21⟩
            go_simp
            with_reducible rfl
           rotate_left
           ·simp only [Act.put, sx_, s0_, s1_, i64_w, i32_w]
            rfl
           refine take_ (i := 9) (N := some 84) (v := ?_) (a' := ?_) #[true, true, true, true, false, true, true, true, true, true, false, false, false] rfl rfl (take_ofW HT_.out HW_.out kr_) (fun _ _ _ h => h) (Or.inl ⟨by rfl, ?_⟩) hHeld ?_ ?_;rotate_left
           ·rintro w' ⟨s0, s1, s2, s3, s4, s5, s6, s7, s8, s9, s10, s11, s12, s13, s14, s15, s16, s17, s18, s19, s20, s21⟩
            go_simp
            with_reducible rfl
           rotate_left
           ·simp only [Act.put, sx_, s0_, s1_, i64_w, i32_w]
            rfl
           refine one_ (i := 4) (N := some 79) #[true, true, true, true, true, true, true, true, true, true, false, false, false] rfl rfl (one_of HT_.out kr_) (by decide) (fun K hK => ?_);refine goes_ Tryz.func26 kr_ rfl #[.slice pT pq.length pU, .string ((rd_T26 pa x5_1).f1)] (by rfl) rfl rfl rl_ ?_;with_reducible refine (tollref05_All.calls k2 _ _ pq ((rd_T26 pa x5_1).f1) pp _ ?side1 ?side2 A58.out).mono ?_;(case side1 => exact C_ (Kd.V_reads' ph.out).2.2);(case side2 => exact (Kd.V_reads' ph.out).2.1);rintro e w113 ⟨qb, rfl, ho0, hb⟩;refine ⟨_, rfl, ?_⟩;have n0_ := am_ (Kd.R_below (R_ pf.out) hb);have n1_ := am_ (Kd.R_below (R_ pj.out) hb);have n2_ := am_ (Kd.R_below (R_ pg.out) hb);have n3_ := am_ (Kd.V_elder' (by (with_reducible repeat (first | apply Kd.V_alloc | apply Kd.V_drewN | apply Kd.V_drew)); exact pk.out) (Kd.R_base ho0) hb);have n4_ := am_ (Kd.V_elder' (by (with_reducible repeat (first | apply Kd.V_alloc | apply Kd.V_drewN | apply Kd.V_drew)); exact ph.out) (Kd.R_base ho0) hb);have n5_ := am_ (Kd.R_lower ho0 (below_size (bel_ HB.out)));have n6_ := am_ (blk_below pc.out hb);have n7_ := am_ (blk_below pe.out hb);have n8_ := am_ (blk_below pb.out hb);have n9_ := am_ (below_step (bel_ HB.out) hb);clear pf pj pg pk ph pc pe pb HB;have pf := n0_;have pj := n1_;have pg := n2_;have pk := n3_;have ph := n4_;have pY := n5_;have pc := n6_;have pe := n7_;have pb := n8_;have HB := n9_;clear n0_ n1_ n2_ n3_ n4_ n5_ n6_ n7_ n8_ n9_;(try clear hb);(try clear hb2);(try clear hk);(try clear hi);(try clear ho0);refine hK.out _ _ ⟨(blk_cell pe.out 0).trans rfl, (blk_cell pe.out 1).trans rfl, (blk_cell pe.out 2).trans rfl, (blk_cell pe.out 3).trans rfl, (blk_cell pe.out 4).trans rfl, (blk_cell pb.out 0).trans rfl, (blk_cell pb.out 1).trans rfl, (blk_cell pb.out 2).trans rfl, (blk_cell pb.out 3).trans rfl, (blk_cell pb.out 4).trans rfl, (blk_cell pb.out 5).trans rfl, (blk_cell pb.out 6).trans rfl, (blk_cell pb.out 7).trans rfl, (blk_cell pc.out 0).trans rfl, (blk_cell pc.out 1).trans rfl, (blk_cell pc.out 2).trans rfl, (blk_cell pc.out 3).trans rfl, (blk_cell pc.out 4).trans rfl, (blk_cell pc.out 5).trans rfl, (blk_cell pc.out 6).trans rfl, (blk_cell pc.out 7).trans rfl, (blk_cell pc.out 8).trans rfl⟩ (fun hHeld => ?_);clear hK K;refine norm_ (a' := ?_) ?_ ?_;rotate_left
           ·show Act.put _ (some 79) _ = _
            simp only [Act.put, sx_, s0_, s1_, i64_w, i32_w];rfl
           refine one_ (i := 10) (N := some 85) #[true, true, true, true, true, true, true, true, true, true, true, false, false] rfl rfl (one_of HT_.out kr_) (by decide) (fun K hK => ?_);refine goes_ Tryz.func26 kr_ rfl #[.slice pG pm.length pH, .string ((rd_T26 pa x5_1).f1)] (by rfl) rfl rfl rl_ ?_;with_reducible refine (tollref05_All.calls k2 _ _ pm ((rd_T26 pa x5_1).f1) pr _ ?side1 ?side2 A59.out).mono ?_;(case side1 => exact C_ (Kd.R_reads' pg.out).2.2);(case side2 => exact (Kd.R_reads' pg.out).2.1);rintro e w114 ⟨qc, rfl, ho0, hb⟩;refine ⟨_, rfl, ?_⟩;have n0_ := am_ (Kd.R_below (R_ pf.out) hb);have n1_ := am_ (Kd.R_below (R_ pj.out) hb);have n2_ := am_ (Kd.R_below (R_ pg.out) hb);have n3_ := am_ (Kd.V_elder' (by (with_reducible repeat (first | apply Kd.V_alloc | apply Kd.V_drewN | apply Kd.V_drew)); exact pk.out) (Kd.R_base ho0) hb);have n4_ := am_ (Kd.V_elder' (by (with_reducible repeat (first | apply Kd.V_alloc | apply Kd.V_drewN | apply Kd.V_drew)); exact ph.out) (Kd.R_base ho0) hb);have n5_ := am_ (Kd.R_elder' (R_ pY.out) (Kd.R_base ho0) hb);have n6_ := am_ (Kd.R_lower (Kd.R_new' ho0 (Kd.R_lt (R_ pY.out))) (below_size (bel_ HB.out)));have n7_ := am_ (blk_below pc.out hb);have n8_ := am_ (blk_below pe.out hb);have n9_ := am_ (blk_below pb.out hb);have n10_ := am_ (below_step (bel_ HB.out) hb);clear pf pj pg pk ph pY pc pe pb HB;have pf := n0_;have pj := n1_;have pg := n2_;have pk := n3_;have ph := n4_;have pY := n5_;have qe := n6_;have pc := n7_;have pe := n8_;have pb := n9_;have HB := n10_;clear n0_ n1_ n2_ n3_ n4_ n5_ n6_ n7_ n8_ n9_ n10_;(try clear hb);(try clear hb2);(try clear hk);(try clear hi);(try clear ho0);refine hK.out _ _ ⟨(blk_cell pe.out 0).trans rfl, (blk_cell pe.out 1).trans rfl, (blk_cell pe.out 2).trans rfl, (blk_cell pe.out 3).trans rfl, (blk_cell pe.out 4).trans rfl, (blk_cell pb.out 0).trans rfl, (blk_cell pb.out 1).trans rfl, (blk_cell pb.out 2).trans rfl, (blk_cell pb.out 3).trans rfl, (blk_cell pb.out 4).trans rfl, (blk_cell pb.out 5).trans rfl, (blk_cell pb.out 6).trans rfl, (blk_cell pb.out 7).trans rfl, (blk_cell pc.out 0).trans rfl, (blk_cell pc.out 1).trans rfl, (blk_cell pc.out 2).trans rfl, (blk_cell pc.out 3).trans rfl, (blk_cell pc.out 4).trans rfl, (blk_cell pc.out 5).trans rfl, (blk_cell pc.out 6).trans rfl, (blk_cell pc.out 7).trans rfl, (blk_cell pc.out 8).trans rfl⟩ (fun hHeld => ?_);clear hK K;refine norm_ (a' := ?_) ?_ ?_;rotate_left
           ·show Act.put _ (some 85) _ = _
            simp only [Act.put, sx_, s0_, s1_, i64_w, i32_w];rfl
           refine pure_ (i := 11) (N := some 9) (v := ?_) (a' := ?_) #[true, true, true, true, true, true, true, true, true, true, true, true, false] rfl rfl (any_of HT_.out kr_) (fun _ _ _ h => h) (Or.inl ⟨by rfl, ?_⟩) ?_ ?_;rotate_left
           ·intro w'
            go_simp
            with_reducible rfl
           rotate_left
           ·simp only [Act.put, sx_, s0_, s1_, i64_w, i32_w]
            rfl
           refine pure_ (i := 12) (N := some 10) (v := ?_) (a' := ?_) #[true, true, true, true, true, true, true, true, true, true, true, true, true] rfl rfl (any_of HT_.out kr_) (fun _ _ _ h => h) (Or.inl ⟨by rfl, ?_⟩) ?_ ?_;rotate_left
           ·intro w'
            go_simp
            with_reducible rfl
           rotate_left
           ·simp only [Act.put, sx_, s0_, s1_, i64_w, i32_w]
            rfl
           refine done_ (done_of HT_.out kr_) ?_;try go_wp2
           go_roundg k2
           case measure => have := HK1.out; have := HK2.out; omega
           case rel => exact ⟨(wrap64 (x5_1 + 1)), sd_, H', ⟨by have := HK1.out; have := HK2.out; omega⟩, ⟨by (with_reducible repeat (first | apply Kd.R_alloc | apply Kd.R_drewN | apply Kd.R_drew)); exact Kd.R_mono pf.out (fun _ hk => trivial)⟩, ⟨by (with_reducible repeat (first | apply Kd.R_alloc | apply Kd.R_drewN | apply Kd.R_drew)); exact pj.out⟩, ⟨by (with_reducible repeat (first | apply Kd.R_alloc | apply Kd.R_drewN | apply Kd.R_drew)); exact pg.out⟩, ⟨by (with_reducible repeat (first | apply Kd.V_alloc | apply Kd.V_drewN | apply Kd.V_drew)); exact Kd.V_mono pk.out (fun _ hk => ⟨hk.1.1.1, ⟨hk.1.1.2.1, hk.1.1.2.2.1⟩⟩)⟩, ⟨by (with_reducible repeat (first | apply Kd.V_alloc | apply Kd.V_drewN | apply Kd.V_drew)); exact Kd.V_mono ph.out (fun _ hk => ⟨hk.1.1.1, ⟨hk.1.1.2.1, hk.1.1.2.2.1⟩⟩)⟩, ⟨by (with_reducible repeat (first | refine blk_drewN ?_ _ | refine blk_drew ?_ | refine blk_alloc ?_ _)); exact pc.out⟩, ⟨by (with_reducible repeat (first | refine blk_drewN ?_ _ | refine blk_drew ?_ | refine blk_alloc ?_ _)); exact pe.out⟩, ⟨bel_ HB.out⟩⟩
     ·rw [if_neg c21] at H
      exact absurd H (by simp)
    ·rw [if_neg c20] at H
     have c20b0 : decide (x5_1 < (pa.length : Int)) = false := decide_eq_false c20;clear c20;replace H := Option.bind_eq_some_iff.mp H;obtain ⟨qr, A1150, H⟩ := H;replace H : (some qr) = some r := H;have A115 := Aside0.mk A1150;clear A1150;obtain rfl := Option.some.inj H;have hnb116 := NB623_649.out;have hnc116 := NB649_623.out;obtain ⟨hcz117_0, hcz117_1, hcz117_2, hcz117_3, hcz117_4, hcz117_5, hcz117_6, hcz117_7, hcz117_8, hfz117_0, hfz117_1, hfz117_2, hfz117_3, hfz117_4, hfz117_5, hfz117_6, hfz117_7, hfz117_8⟩ := blk9 pc.out;go_wp2_with (first | ((with_reducible refine gate_callee (f := 14) rfl ?_); refine goesL_ (some 126) rfl rfl Tryz.func14 kr_ rfl #[] rfl rl_ ?_; (with_reducible refine (tolllaw07_awake.calls k1  qr _ (gm_ HGL.out (bel_ HB.out)) A115.out).mono ?_); rintro e w118 ⟨rfl, hb⟩; refine ⟨_, rfl, ?_⟩; have n0_ := am_ (Kd.R_below (R_ pf.out) hb); have n1_ := am_ (Kd.R_below (R_ pj.out) hb); have n2_ := am_ (Kd.R_below (R_ pg.out) hb); have n3_ := am_ (Kd.V_below (by (with_reducible repeat (first | apply Kd.V_alloc | apply Kd.V_drewN | apply Kd.V_drew)); exact pk.out) hb); have n4_ := am_ (Kd.V_below (by (with_reducible repeat (first | apply Kd.V_alloc | apply Kd.V_drewN | apply Kd.V_drew)); exact ph.out) hb); have n5_ := am_ (blk_below pc.out hb); have n6_ := am_ (blk_below pe.out hb); have n7_ := am_ (below_step (bel_ HB.out) hb); clear pf pj pg pk ph pc pe HB; have pf := n0_; have pj := n1_; have pg := n2_; have pk := n3_; have ph := n4_; have pc := n5_; have pe := n6_; have HB := n7_; clear n0_ n1_ n2_ n3_ n4_ n5_ n6_ n7_; (try clear hb); (try clear hb2); (try clear hk); (try clear hi)))
     go_ret
     exact ⟨fi_, bel_ HB.out⟩
 ·rw [if_neg c4] at H
  exact absurd H (by simp)

/-- THE ONE PURE STATEMENT of tolllaw07_FilterFields. -/
def tolllaw07_FilterFields.Pure : Prop := ∀ (l0_0 : List (S26)) (a0_1 : Int) (a0_2 : ByteArray) (a0_3 : ByteArray) (a0_4 : ByteArray) (a0_5 : ByteArray) (l0_6 : List (S59)) (l0_7 : List (S59)) (a0_8 : Bool), ((l0_0.length ≤ maxLen ∧ l0_0.length * 96 ≤ 140737488351232 ∧ ∀ y ∈ l0_0, ((Lit.int .i64 y.f0).wf = true) ∧ (y.f1.size ≤ 140737488351232) ∧ (y.f2.size ≤ 140737488351232) ∧ (y.f3.size ≤ 140737488351232) ∧ ((Lit.int .i64 y.f4).wf = true) ∧ (y.f5.size ≤ 140737488351232) ∧ (True) ∧ ((Lit.int .i64 y.f7).wf = true)) ∧ (((Lit.int .i64 a0_1).wf = true) ∧ (a0_2.size ≤ 140737488351232)) ∧ ((a0_3.size ≤ 140737488351232) ∧ (a0_4.size ≤ 140737488351232) ∧ (a0_5.size ≤ 140737488351232) ∧ (l0_6.length ≤ maxLen ∧ l0_6.length * 32 ≤ 140737488351232 ∧ ∀ y ∈ l0_6, (y.f0.size ≤ 140737488351232) ∧ (y.f1.size ≤ 140737488351232)) ∧ (l0_7.length ≤ maxLen ∧ l0_7.length * 32 ≤ 140737488351232 ∧ ∀ y ∈ l0_7, (y.f0.size ≤ 140737488351232) ∧ (y.f1.size ≤ 140737488351232))) ∧ (True)) → ∃ k, tolllaw07_FilterFields_g1.f k l0_0 a0_1 a0_2 a0_3 a0_4 a0_5 l0_6 l0_7 a0_8 = some true ∨ tolllaw07_FilterFields_g2.f k l0_0 a0_1 a0_2 a0_3 a0_4 a0_5 l0_6 l0_7 a0_8 = some true

end Go.Proofs.YtfdopmjgiakcdaaGreatDoor.P
