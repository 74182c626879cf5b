-- written by wip/tool/hprint.py of this repo: the kit's print, with contracts by hand joined; Lean checks it.
import Derived.Test.YtfdopmjgiakcdaaGreatDoorPx0
import Derived.Test.YtfdopmjgiakcdaaGreatDoorPx4
import Derived.Test.YtfdopmjgiakcdaaGreatDoorPx8
import Derived.Test.YtfdopmjgiakcdaaGreatDoorPx10
import Derived.Test.YtfdopmjgiakcdaaGreatDoorPx12
namespace Go.Proofs.YtfdopmjgiakcdaaGreatDoor.P
open Go.RowKit Go.Proofs.YtfdopmjgiakcdaaGreatDoorW.PrintWords Go.Proofs.YtfdopmjgiakcdaaGreatDoorW.PrintLast Go.Proofs.YtfdopmjgiakcdaaGreatDoorW.PrintMore
attribute [local go_sem] max2_int min2_int max_two min_two max_three min_three max_four min_four   -- for this text's walks alone
set_option linter.unusedVariables false
set_option linter.unusedSimpArgs false

/-- From here on more is held: S2 in S1's place, where all that is not of ds comes ahead of each of ds. -/
theorem restart_ {P : Program} {ops : Array Oper} {Q : Exit → Act → World → Prop} {S1 S2 : World → Prop} {ds : List Nat} (h21 : ∀ w, S2 w → S1 w)
    (hds : (ds.all fun d => (List.range ops.size).all fun j => ds.contains j || Region.reachB .any ops j 6 d) = true) {fuel : Nat} {l : Array Bool} {a : Act} {w : World}
    (hc : Region.closedB .any ops l = true) (hS : S2 w) (h : S2 w → wpAnyLast P .any ops Q S2 ds fuel l a w) : wpAnyLast P .any ops Q S1 ds fuel l a w := by
  have key : ∀ (fuel : Nat) (l : Array Bool) (a : Act) (w : World), ListedClosed .any ops l → ((∀ d ∈ ds, l.getD d false = false) → S2 w) → wpAnyLast P .any ops Q S2 ds fuel l a w → wpAnyLast P .any ops Q S1 ds fuel l a w := by
    intro fuel
    induction fuel with
    | zero => exact fun l a w _ _ h => h
    | succ fuel ih =>
      intro l a w hcl hJ h
      refine ⟨h.1, fun i hi => wpOp_mono (fun a' w' hh => ?_) (h.2 i hi)⟩
      obtain ⟨hs, hw⟩ := hh
      have hun : l.getD i true = false ∧ i < ops.size := by
        unfold Region.ready at hi
        obtain ⟨h1, h2⟩ := List.mem_filter.1 hi
        rw [Bool.and_eq_true] at h2
        exact ⟨by simpa using h2.1, List.mem_range.1 h1⟩
      have hnl : i ∉ ds → ∀ d ∈ ds, l.getD d false = false := by
        intro hid d hd
        cases hq : l.getD d false with
        | false => rfl
        | true =>
          exfalso
          have h1 := List.all_eq_true.1 (List.all_eq_true.1 hds d hd) i (List.mem_range.2 hun.2)
          rw [Bool.or_eq_true] at h1
          have h2 := Region.reach_listed hcl 6 d (h1.resolve_left (by simpa using hid)) hq
          have h3 := hun.1
          simp only [Array.getD_eq_getD_getElem?] at h2 h3
          cases hh2 : l[i]? with
          | none => rw [hh2] at h2; simp at h2
          | some b => rw [hh2] at h2 h3; simp at h2 h3; simp [h2] at h3
      refine ⟨fun hid _ => h21 _ (hs hid (hJ (hnl hid))), ih _ _ _ (hcl.set hi) (fun hno => ?_) hw⟩
      by_cases hid : i ∈ ds
      · have h1 := hno i hid
        have h3 := hun.1
        simp only [Array.getD_eq_getD_getElem?, Array.getElem?_setIfInBounds] at h1 h3
        by_cases hlt : i < l.size
        · simp [hlt] at h1
        · rw [Array.getElem?_eq_none (by omega)] at h3; simp at h3
      · exact hs hid (hJ (hnl hid))
  exact key fuel l a w (Region.closedB_spec hc) (fun _ => hS) (h hS)
/-! ### tolllaw07_FilterPaths: function 8 -/
mutual
def tolllaw07_FilterPaths.j0 : Nat → Int → ByteArray → ByteArray → ByteArray → Int → ByteArray → Bool → Int → Int → ByteArray → ByteArray → ByteArray → ByteArray → List (S59) → List (S59) → Option (Bool)
 | 0, _, _, _, _, _, _, _, _, _, _, _, _, _, _, _ => none
 | k + 1, x716000, x716001, x716002, x716003, x716004, x716005, x716006, x716007, x717000, x717001, x718000, x718001, x718002, x718003, x718004 => if x716000 = 5 then ((filter_Do.f k (([(⟨x716000, x716001, x716002, x716003, x716004, x716005, x716006, x716007⟩ : S26)] : List (S26))) x717000 x717001 x718000 x718001 x718002 x718003 x718004).bind fun bt740 => (if bt740.2.2.2.2.2 = 0 then (if x716003.toList = ([] : List UInt8) then (tolllaw07_FilterPaths.j1 k x718001 x716000 x716001 x716002 x716003 x716004 x716005 x716006 x716007 x717000 x717001 x718000 x718001 x718002 x718003 x718004 bt740.1 bt740.2.1 bt740.2.2.1 bt740.2.2.2.1 bt740.2.2.2.2.1) else (tolllaw07_FilterPaths.j1 k x716003 x716000 x716001 x716002 x716003 x716004 x716005 x716006 x716007 x717000 x717001 x718000 x718001 x718002 x718003 x718004 bt740.1 bt740.2.1 bt740.2.2.1 bt740.2.2.2.1 bt740.2.2.2.2.1)) else (if bt740.2.2.1.toList = ([] : List UInt8) then ((tolllaw07_awake.f k).bind fun t751 => (some t751)) else (none)))) else ((tolllaw07_awake.f k).bind fun t736 => (some t736))
def tolllaw07_FilterPaths.j1 : Nat → ByteArray → Int → ByteArray → ByteArray → ByteArray → Int → ByteArray → Bool → Int → Int → ByteArray → ByteArray → ByteArray → ByteArray → List (S59) → List (S59) → ByteArray → ByteArray → ByteArray → List (S59) → List (S59) → Option (Bool)
 | 0, _, _, _, _, _, _, _, _, _, _, _, _, _, _, _, _, _, _, _, _, _ => none
 | k + 1, x9, x716000, x716001, x716002, x716003, x716004, x716005, x716006, x716007, x717000, x717001, x718000, x718001, x718002, x718003, x718004, x751000, x751001, x751002, x751003, x751004 => if x751001.toList = x9.toList then (if (x751002.size : Int) = 0 then (none) else (if 0 < (x751002.size : Int) then (if (bt x751002 0) = 47 then (tolllaw07_FilterPaths.j2 k (decide ((x751002.size : Int) > 60)) x716000 x716001 x716002 x716003 x716004 x716005 x716006 x716007 x717000 x717001 x718000 x718001 x718002 x718003 x718004 x751000 x751001 x751002 x751003 x751004) else (none)) else (none))) else (none)
def tolllaw07_FilterPaths.j2 : Nat → Bool → Int → ByteArray → ByteArray → ByteArray → Int → ByteArray → Bool → Int → Int → ByteArray → ByteArray → ByteArray → ByteArray → List (S59) → List (S59) → ByteArray → ByteArray → ByteArray → List (S59) → List (S59) → Option (Bool)
 | 0, _, _, _, _, _, _, _, _, _, _, _, _, _, _, _, _, _, _, _, _, _ => none
 | k + 1, x67, x716000, x716001, x716002, x716003, x716004, x716005, x716006, x716007, x717000, x717001, x718000, x718001, x718002, x718003, x718004, x751000, x751001, x751002, x751003, x751004 => if x67 = true then (none) else (if x716005.toList = ([] : List UInt8) then (if x751002.toList = x718002.toList then ((tolllaw07_awake.f k).bind fun t752 => (some t752)) else (none)) else (if x716006 = true then (tolllaw07_FilterPaths.j3 k true x716000 x716001 x716002 x716003 x716004 x716005 x716006 x716007 x751000 x751001 x751002 x751003 x751004) else (tolllaw07_FilterPaths.j3 k (x717000 == 1) x716000 x716001 x716002 x716003 x716004 x716005 x716006 x716007 x751000 x751001 x751002 x751003 x751004)))
def tolllaw07_FilterPaths.j3 : Nat → Bool → Int → ByteArray → ByteArray → ByteArray → Int → ByteArray → Bool → Int → ByteArray → ByteArray → ByteArray → List (S59) → List (S59) → Option (Bool)
 | 0, _, _, _, _, _, _, _, _, _, _, _, _, _, _ => none
 | k + 1, x80, x716000, x716001, x716002, x716003, x716004, x716005, x716006, x716007, x751000, x751001, x751002, x751003, x751004 => if x80 = true then (if x751002.toList = x716005.toList then ((tolllaw07_awake.f k).bind fun t753 => (some t753)) else (none)) else (if x716005.toList = ([47] : List UInt8) then ((tolllaw07_awake.f k).bind fun t754 => (some t754)) else (if x751002.toList = x716005.toList then ((tolllaw07_awake.f k).bind fun t755 => (some t755)) else (if (x751002.size : Int) > (x716005.size : Int) then (if 0 ≤ (wrap64 ((x716005.size : Int) + 1)) then (if (wrap64 ((x716005.size : Int) + 1)) ≤ (x751002.size : Int) then (if x716005.size + 1 ≤ 9223372036854775807 then (if (x751002.extract 0 ((wrap64 ((x716005.size : Int) + 1)) : Int).toNat).toList = (x716005 ++ (⟨#[47]⟩ : ByteArray)).toList then ((tolllaw07_awake.f k).bind fun t756 => (some t756)) else (none)) else (none)) else (none)) else (none)) else (none))))
end
def tolllaw07_FilterPaths.f (k : Nat) (a0_0 : Int) (a0_1 : ByteArray) (a0_2 : ByteArray) (a0_3 : ByteArray) (a0_4 : Int) (a0_5 : ByteArray) (a0_6 : Bool) (a0_7 : Int) (a1_0 : Int) (a1_1 : ByteArray) (a2_0 : ByteArray) (a2_1 : ByteArray) (a2_2 : ByteArray) (l2_3 : List (S59)) (l2_4 : List (S59)) : Option (Bool) := (tolllaw07_Few.f k (([(⟨a0_0, a0_1, a0_2, a0_3, a0_4, a0_5, a0_6, a0_7⟩ : S26)] : List (S26)))).bind fun t721 => (if 0 < (t721.length : Int) then ((tolllaw03_Few.f a1_0 a1_1).bind fun bt725 => ((tolllaw06_Asked.f k a2_0 a2_1 a2_2 l2_3 l2_4).bind fun bt727 => (tolllaw07_FilterPaths.j0 k ((rd_T26 t721 0).f0) ((rd_T26 t721 0).f1) ((rd_T26 t721 0).f2) ((rd_T26 t721 0).f3) ((rd_T26 t721 0).f4) ((rd_T26 t721 0).f5) ((rd_T26 t721 0).f6) ((rd_T26 t721 0).f7) bt725.1 bt725.2 bt727.1 bt727.2.1 bt727.2.2.1 bt727.2.2.2.1 bt727.2.2.2.2))) else (none))
theorem tolllaw07_FilterPaths.mono_l : ∀ k, (∀ y0 y1 y2 y3 y4 y5 y6 y7 y8 y9 y10 y11 y12 y13 y14, LeO (tolllaw07_FilterPaths.j0 k y0 y1 y2 y3 y4 y5 y6 y7 y8 y9 y10 y11 y12 y13 y14) (tolllaw07_FilterPaths.j0 (k + 1) y0 y1 y2 y3 y4 y5 y6 y7 y8 y9 y10 y11 y12 y13 y14)) ∧ (∀ y0 y1 y2 y3 y4 y5 y6 y7 y8 y9 y10 y11 y12 y13 y14 y15 y16 y17 y18 y19 y20, LeO (tolllaw07_FilterPaths.j1 k y0 y1 y2 y3 y4 y5 y6 y7 y8 y9 y10 y11 y12 y13 y14 y15 y16 y17 y18 y19 y20) (tolllaw07_FilterPaths.j1 (k + 1) y0 y1 y2 y3 y4 y5 y6 y7 y8 y9 y10 y11 y12 y13 y14 y15 y16 y17 y18 y19 y20)) ∧ (∀ y0 y1 y2 y3 y4 y5 y6 y7 y8 y9 y10 y11 y12 y13 y14 y15 y16 y17 y18 y19 y20, LeO (tolllaw07_FilterPaths.j2 k y0 y1 y2 y3 y4 y5 y6 y7 y8 y9 y10 y11 y12 y13 y14 y15 y16 y17 y18 y19 y20) (tolllaw07_FilterPaths.j2 (k + 1) y0 y1 y2 y3 y4 y5 y6 y7 y8 y9 y10 y11 y12 y13 y14 y15 y16 y17 y18 y19 y20)) ∧ (∀ y0 y1 y2 y3 y4 y5 y6 y7 y8 y9 y10 y11 y12 y13, LeO (tolllaw07_FilterPaths.j3 k y0 y1 y2 y3 y4 y5 y6 y7 y8 y9 y10 y11 y12 y13) (tolllaw07_FilterPaths.j3 (k + 1) y0 y1 y2 y3 y4 y5 y6 y7 y8 y9 y10 y11 y12 y13))
 | 0 => ⟨fun _ _ _ _ _ _ _ _ _ _ _ _ _ _ _ r h => by simp [tolllaw07_FilterPaths.j0] at h, fun _ _ _ _ _ _ _ _ _ _ _ _ _ _ _ _ _ _ _ _ _ r h => by simp [tolllaw07_FilterPaths.j1] at h, fun _ _ _ _ _ _ _ _ _ _ _ _ _ _ _ _ _ _ _ _ _ r h => by simp [tolllaw07_FilterPaths.j2] at h, fun _ _ _ _ _ _ _ _ _ _ _ _ _ _ r h => by simp [tolllaw07_FilterPaths.j3] at h⟩
 | k + 1 => by
  obtain ⟨ih0, ih1, ih2, ih3⟩ := tolllaw07_FilterPaths.mono_l k
  refine ⟨?_, ?_, ?_, ?_⟩
  ·intro y0 y1 y2 y3 y4 y5 y6 y7 y8 y9 y10 y11 y12 y13 y14
   unfold tolllaw07_FilterPaths.j0
   repeat' first
   | (with_reducible exact ih0 _ _ _ _ _ _ _ _ _ _ _ _ _ _ _)
   | (with_reducible exact ih1 _ _ _ _ _ _ _ _ _ _ _ _ _ _ _ _ _ _ _ _ _)
   | (with_reducible exact ih2 _ _ _ _ _ _ _ _ _ _ _ _ _ _ _ _ _ _ _ _ _)
   | (with_reducible exact ih3 _ _ _ _ _ _ _ _ _ _ _ _ _ _)
   | (with_reducible exact filter_Do.mono _ _ _ _ _ _ _ _ _)
   | (with_reducible exact tolllaw06_Asked.mono _ _ _ _ _ _)
   | (with_reducible exact tolllaw07_Few.mono _ _)
   | (with_reducible exact tolllaw07_awake.mono _)
   | (with_reducible exact LeO.refl _)
   | (with_reducible exact LeO.none _)
   | (with_reducible refine LeO.ite ?_ ?_)
   | (with_reducible refine LeO.bind ?_ (fun _ => ?_))
   | exact ih0 _ _ _ _ _ _ _ _ _ _ _ _ _ _ _
   | exact ih1 _ _ _ _ _ _ _ _ _ _ _ _ _ _ _ _ _ _ _ _ _
   | exact ih2 _ _ _ _ _ _ _ _ _ _ _ _ _ _ _ _ _ _ _ _ _
   | exact ih3 _ _ _ _ _ _ _ _ _ _ _ _ _ _
   | exact filter_Do.mono _ _ _ _ _ _ _ _ _
   | exact tolllaw06_Asked.mono _ _ _ _ _ _
   | exact tolllaw07_Few.mono _ _
   | exact tolllaw07_awake.mono _
   | exact LeO.none _
   | refine LeO.ite ?_ ?_
   | refine LeO.bind ?_ (fun _ => ?_)
  ·intro y0 y1 y2 y3 y4 y5 y6 y7 y8 y9 y10 y11 y12 y13 y14 y15 y16 y17 y18 y19 y20
   unfold tolllaw07_FilterPaths.j1
   repeat' first
   | (with_reducible exact ih0 _ _ _ _ _ _ _ _ _ _ _ _ _ _ _)
   | (with_reducible exact ih1 _ _ _ _ _ _ _ _ _ _ _ _ _ _ _ _ _ _ _ _ _)
   | (with_reducible exact ih2 _ _ _ _ _ _ _ _ _ _ _ _ _ _ _ _ _ _ _ _ _)
   | (with_reducible exact ih3 _ _ _ _ _ _ _ _ _ _ _ _ _ _)
   | (with_reducible exact filter_Do.mono _ _ _ _ _ _ _ _ _)
   | (with_reducible exact tolllaw06_Asked.mono _ _ _ _ _ _)
   | (with_reducible exact tolllaw07_Few.mono _ _)
   | (with_reducible exact tolllaw07_awake.mono _)
   | (with_reducible exact LeO.refl _)
   | (with_reducible exact LeO.none _)
   | (with_reducible refine LeO.ite ?_ ?_)
   | (with_reducible refine LeO.bind ?_ (fun _ => ?_))
   | exact ih0 _ _ _ _ _ _ _ _ _ _ _ _ _ _ _
   | exact ih1 _ _ _ _ _ _ _ _ _ _ _ _ _ _ _ _ _ _ _ _ _
   | exact ih2 _ _ _ _ _ _ _ _ _ _ _ _ _ _ _ _ _ _ _ _ _
   | exact ih3 _ _ _ _ _ _ _ _ _ _ _ _ _ _
   | exact filter_Do.mono _ _ _ _ _ _ _ _ _
   | exact tolllaw06_Asked.mono _ _ _ _ _ _
   | exact tolllaw07_Few.mono _ _
   | exact tolllaw07_awake.mono _
   | exact LeO.none _
   | refine LeO.ite ?_ ?_
   | refine LeO.bind ?_ (fun _ => ?_)
  ·intro y0 y1 y2 y3 y4 y5 y6 y7 y8 y9 y10 y11 y12 y13 y14 y15 y16 y17 y18 y19 y20
   unfold tolllaw07_FilterPaths.j2
   repeat' first
   | (with_reducible exact ih0 _ _ _ _ _ _ _ _ _ _ _ _ _ _ _)
   | (with_reducible exact ih1 _ _ _ _ _ _ _ _ _ _ _ _ _ _ _ _ _ _ _ _ _)
   | (with_reducible exact ih2 _ _ _ _ _ _ _ _ _ _ _ _ _ _ _ _ _ _ _ _ _)
   | (with_reducible exact ih3 _ _ _ _ _ _ _ _ _ _ _ _ _ _)
   | (with_reducible exact filter_Do.mono _ _ _ _ _ _ _ _ _)
   | (with_reducible exact tolllaw06_Asked.mono _ _ _ _ _ _)
   | (with_reducible exact tolllaw07_Few.mono _ _)
   | (with_reducible exact tolllaw07_awake.mono _)
   | (with_reducible exact LeO.refl _)
   | (with_reducible exact LeO.none _)
   | (with_reducible refine LeO.ite ?_ ?_)
   | (with_reducible refine LeO.bind ?_ (fun _ => ?_))
   | exact ih0 _ _ _ _ _ _ _ _ _ _ _ _ _ _ _
   | exact ih1 _ _ _ _ _ _ _ _ _ _ _ _ _ _ _ _ _ _ _ _ _
   | exact ih2 _ _ _ _ _ _ _ _ _ _ _ _ _ _ _ _ _ _ _ _ _
   | exact ih3 _ _ _ _ _ _ _ _ _ _ _ _ _ _
   | exact filter_Do.mono _ _ _ _ _ _ _ _ _
   | exact tolllaw06_Asked.mono _ _ _ _ _ _
   | exact tolllaw07_Few.mono _ _
   | exact tolllaw07_awake.mono _
   | exact LeO.none _
   | refine LeO.ite ?_ ?_
   | refine LeO.bind ?_ (fun _ => ?_)
  ·intro y0 y1 y2 y3 y4 y5 y6 y7 y8 y9 y10 y11 y12 y13
   unfold tolllaw07_FilterPaths.j3
   repeat' first
   | (with_reducible exact ih0 _ _ _ _ _ _ _ _ _ _ _ _ _ _ _)
   | (with_reducible exact ih1 _ _ _ _ _ _ _ _ _ _ _ _ _ _ _ _ _ _ _ _ _)
   | (with_reducible exact ih2 _ _ _ _ _ _ _ _ _ _ _ _ _ _ _ _ _ _ _ _ _)
   | (with_reducible exact ih3 _ _ _ _ _ _ _ _ _ _ _ _ _ _)
   | (with_reducible exact filter_Do.mono _ _ _ _ _ _ _ _ _)
   | (with_reducible exact tolllaw06_Asked.mono _ _ _ _ _ _)
   | (with_reducible exact tolllaw07_Few.mono _ _)
   | (with_reducible exact tolllaw07_awake.mono _)
   | (with_reducible exact LeO.refl _)
   | (with_reducible exact LeO.none _)
   | (with_reducible refine LeO.ite ?_ ?_)
   | (with_reducible refine LeO.bind ?_ (fun _ => ?_))
   | exact ih0 _ _ _ _ _ _ _ _ _ _ _ _ _ _ _
   | exact ih1 _ _ _ _ _ _ _ _ _ _ _ _ _ _ _ _ _ _ _ _ _
   | exact ih2 _ _ _ _ _ _ _ _ _ _ _ _ _ _ _ _ _ _ _ _ _
   | exact ih3 _ _ _ _ _ _ _ _ _ _ _ _ _ _
   | exact filter_Do.mono _ _ _ _ _ _ _ _ _
   | exact tolllaw06_Asked.mono _ _ _ _ _ _
   | exact tolllaw07_Few.mono _ _
   | exact tolllaw07_awake.mono _
   | exact LeO.none _
   | refine LeO.ite ?_ ?_
   | refine LeO.bind ?_ (fun _ => ?_)
theorem tolllaw07_FilterPaths.mono : ∀ a0 a1 a2 a3 a4 a5 a6 a7 a8 a9 a10 a11 a12 a13 a14 k, LeO (tolllaw07_FilterPaths.f k a0 a1 a2 a3 a4 a5 a6 a7 a8 a9 a10 a11 a12 a13 a14) (tolllaw07_FilterPaths.f (k + 1) a0 a1 a2 a3 a4 a5 a6 a7 a8 a9 a10 a11 a12 a13 a14) := by
 intro a0 a1 a2 a3 a4 a5 a6 a7 a8 a9 a10 a11 a12 a13 a14 k
 obtain ⟨ih0, ih1, ih2, ih3⟩ := tolllaw07_FilterPaths.mono_l k
 unfold tolllaw07_FilterPaths.f
 repeat' first
   | (with_reducible exact ih0 _ _ _ _ _ _ _ _ _ _ _ _ _ _ _)
   | (with_reducible exact ih1 _ _ _ _ _ _ _ _ _ _ _ _ _ _ _ _ _ _ _ _ _)
   | (with_reducible exact ih2 _ _ _ _ _ _ _ _ _ _ _ _ _ _ _ _ _ _ _ _ _)
   | (with_reducible exact ih3 _ _ _ _ _ _ _ _ _ _ _ _ _ _)
   | (with_reducible exact filter_Do.mono _ _ _ _ _ _ _ _ _)
   | (with_reducible exact tolllaw06_Asked.mono _ _ _ _ _ _)
   | (with_reducible exact tolllaw07_Few.mono _ _)
   | (with_reducible exact tolllaw07_awake.mono _)
   | (with_reducible exact LeO.refl _)
   | (with_reducible exact LeO.none _)
   | (with_reducible refine LeO.ite ?_ ?_)
   | (with_reducible refine LeO.bind ?_ (fun _ => ?_))
   | exact ih0 _ _ _ _ _ _ _ _ _ _ _ _ _ _ _
   | exact ih1 _ _ _ _ _ _ _ _ _ _ _ _ _ _ _ _ _ _ _ _ _
   | exact ih2 _ _ _ _ _ _ _ _ _ _ _ _ _ _ _ _ _ _ _ _ _
   | exact ih3 _ _ _ _ _ _ _ _ _ _ _ _ _ _
   | exact filter_Do.mono _ _ _ _ _ _ _ _ _
   | exact tolllaw06_Asked.mono _ _ _ _ _ _
   | exact tolllaw07_Few.mono _ _
   | exact tolllaw07_awake.mono _
   | exact LeO.none _
   | refine LeO.ite ?_ ?_
   | refine LeO.bind ?_ (fun _ => ?_)
def tolllaw07_FilterPaths.T1 : Bool × List (List Nat × List Nat) := (true, [([], []), ([0], [0]), ([1], [1]), ([2], [2]), ([3], [3]), ([], []), ([5, 2], [5]), ([], []), ([7, 6], [7]), ([4, 8, 0, 1, 2, 3, 4], [4]), ([6, 9, 0, 1, 2, 3, 4, 5, 6, 9], [6]), ([8, 10, 0, 1, 2, 3, 4, 5, 6, 7, 8, 9, 10], [8])])
def tolllaw07_FilterPaths.B1 : List Nat := [0, 1, 3, 7, 15, 0, 39, 0, 231, 511, 1023, 2047]
theorem tolllaw07_FilterPaths.tab1 : rtab .any (opsOf Tryz.f8 1) = tolllaw07_FilterPaths.T1 := by kernel_rfl
theorem tolllaw07_FilterPaths.bits1 : waitsOk tolllaw07_FilterPaths.T1.2 tolllaw07_FilterPaths.B1 = true := by kernel_rfl
def tolllaw07_FilterPaths.T16 : Bool × List (List Nat × List Nat) := (true, [([], []), ([0], [0]), ([1], [1]), ([2], [2]), ([3], [3]), ([4, 3], [3, 4]), ([3], [3]), ([6, 3], [3, 6]), ([5, 7, 3], [3, 5, 7]), ([3, 8], [3, 8]), ([9, 3], [9]), ([10], [10]), ([11, 10], [10, 11]), ([12, 10], [10, 12]), ([10], [10]), ([14, 10], [10, 14]), ([15, 10], [10, 15]), ([13, 16, 10], [10, 13, 16]), ([17, 10, 10], [10, 17]), ([18], [18]), ([19, 18], [18, 19]), ([18], [18]), ([21, 18], [18, 21]), ([22, 18], [18, 22]), ([23, 18], [18, 23]), ([20, 24, 18], [18, 20, 24]), ([18], [18]), ([26, 18], [18, 26]), ([27, 18], [18, 27]), ([25, 28, 18], [18, 25, 28]), ([18, 29, 10], [10, 18, 29]), ([10, 30], [10, 30]), ([31, 18], [31]), ([32, 32], [32]), ([32, 33], [32, 33]), ([34, 33, 0, 1, 2, 3, 4, 5, 6, 7, 8, 9, 10, 11, 12, 13, 14, 15, 16, 17, 18, 19, 20, 21, 22, 23, 24, 25, 26, 27, 28, 29, 30, 31, 32, 33, 34], [34])])
def tolllaw07_FilterPaths.B16 : List Nat := [0, 1, 3, 7, 15, 31, 15, 79, 255, 511, 1023, 2047, 4095, 8191, 2047, 18431, 51199, 131071, 262143, 524287, 1048575, 524287, 2621439, 6815743, 15204351, 33554431, 524287, 67633151, 201850879, 536870911, 1073741823, 2147483647, 4294967295, 8589934591, 17179869183, 34359738367]
theorem tolllaw07_FilterPaths.tab16 : rtab .any (opsOf Tryz.f8 16) = tolllaw07_FilterPaths.T16 := by kernel_rfl
theorem tolllaw07_FilterPaths.bits16 : waitsOk tolllaw07_FilterPaths.T16.2 tolllaw07_FilterPaths.B16 = true := by kernel_rfl
set_option maxHeartbeats 6000000 in
set_option maxRecDepth 100000 in
theorem tolllaw07_FilterPaths.calls (k : Nat) (a0_0 : Int) (a0_1 : ByteArray) (a0_2 : ByteArray) (a0_3 : ByteArray) (a0_4 : Int) (a0_5 : ByteArray) (a0_6 : Bool) (a0_7 : Int) (a1_0 : Int) (a1_1 : ByteArray) (a2_0 : ByteArray) (a2_1 : ByteArray) (a2_2 : ByteArray) (A2_3 : Option Addr) (c2_3 : Nat) (l2_3 : List (S59)) (A2_4 : Option Addr) (c2_4 : Nat) (l2_4 : List (S59)) (r : Bool) (w : World) (hr2_3 : Kd.C k59 w A2_3 l2_3.length l2_3) (hc2_3 : l2_3.length ≤ c2_3) (hr2_4 : Kd.C k59 w A2_4 l2_4.length l2_4) (hc2_4 : l2_4.length ≤ c2_4) (hG : MaxL w) (h : tolllaw07_FilterPaths.f k a0_0 a0_1 a0_2 a0_3 a0_4 a0_5 a0_6 a0_7 a1_0 a1_1 a2_0 a2_1 a2_2 l2_3 l2_4 = some r) :
  Calls Tryz.prog 8 #[.agg #[.int .i64 a0_0, .string a0_1, .string a0_2, .string a0_3, .int .i64 a0_4, .string a0_5, .bool a0_6, .int .i64 a0_7], .agg #[.int .i64 a1_0, .string a1_1], .agg #[.string a2_0, .string a2_1, .string a2_2, .slice A2_3 l2_3.length c2_3, .slice A2_4 l2_4.length c2_4]] w fun e w' => e = .returned (.bool r) ∧ Below w.heap.size w w' := by
 have HGL := am_ hG
 clear hG
 have hu26 := Tryz.underlying26
 have hu30 := Tryz.underlying30
 have hu33 := Tryz.underlying33
 have HR2_3 := Aside0.mk hr2_3
 have HC2_3 := Aside0.mk hc2_3
 clear hr2_3 hc2_3
 have HR2_4 := Aside0.mk hr2_4
 have HC2_4 := Aside0.mk hc2_4
 clear hr2_4 hc2_4
 have HB := am_ (Below.refl w.heap.size w)
 have H : ((tolllaw07_Few.f k (([(⟨a0_0, a0_1, a0_2, a0_3, a0_4, a0_5, a0_6, a0_7⟩ : S26)] : List (S26)))).bind fun t721 => (if 0 < (t721.length : Int) then ((tolllaw03_Few.f a1_0 a1_1).bind fun bt725 => ((tolllaw06_Asked.f k a2_0 a2_1 a2_2 l2_3 l2_4).bind fun bt727 => (tolllaw07_FilterPaths.j0 k ((rd_T26 t721 0).f0) ((rd_T26 t721 0).f1) ((rd_T26 t721 0).f2) ((rd_T26 t721 0).f3) ((rd_T26 t721 0).f4) ((rd_T26 t721 0).f5) ((rd_T26 t721 0).f6) ((rd_T26 t721 0).f7) bt725.1 bt725.2 bt727.1 bt727.2.1 bt727.2.2.1 bt727.2.2.2.1 bt727.2.2.2.2))) else (none))) = some r := h
 clear h
 have HC4 := Aside0.mk H
 clear H
 go_enter Tryz.func8, Tryz.ntmps8
 go_upto_region 1 with (first | ((with_reducible refine gate_dst (N := 3) rfl ?_); (try (refine gate_guard (by rfl) ?_; dsimp only)); refine box_event ?hg (N := 3) ?hd (cs := #[.int .i64 a0_0, .string a0_1, .string a0_2, .string a0_3, .int .i64 a0_4, .string a0_5, .bool a0_6, .int .i64 a0_7]) (t := 26) ?hr ?_; (case hd => rfl); (case hg => rfl); (case hr => first | (go_simp; done) | (go_simp; rfl)); intro gb715 hg w5 hbox hb; have n0_ := am_ (below_step (bel_ HB.out) hb); have n1_ := am_ (hbox); have n2_ := am_ ((by rw [hg]; exact (below_size (bel_ HB.out)) : w.heap.size ≤ gb715)); have n3_ := am_ ((by rw [hg]; exact (below_size (bel_ HB.out)) : w.heap.size ≤ gb715)); clear HB; have HB := n0_; have BK715 := n1_; have GW715 := n2_; have GE715 := n3_; clear n0_ n1_ n2_ n3_ hb hbox hg) | ((with_reducible refine gate_dst (N := 4) rfl ?_); (try (refine gate_guard (by rfl) ?_; dsimp only)); refine box_event ?hg (N := 4) ?hd (cs := #[.int .i64 a1_0, .string a1_1]) (t := 30) ?hr ?_; (case hd => rfl); (case hg => rfl); (case hr => first | (go_simp; done) | (go_simp; rfl)); intro gb716 hg w6 hbox hb; have n0_ := am_ (blk_below (g := gb715) (o := .cells #[.int .i64 a0_0, .string a0_1, .string a0_2, .string a0_3, .int .i64 a0_4, .string a0_5, .bool a0_6, .int .i64 a0_7] 26 (0, 0)) (blk_ BK715.out) hb); have n1_ := am_ (below_step (bel_ HB.out) hb); have n2_ := am_ (hbox); have n3_ := am_ ((by rw [hg]; exact (below_size (bel_ HB.out)) : w.heap.size ≤ gb716)); have n4_ := am_ ((by rw [hg]; exact (below_size (bel_ HB.out)) : w.heap.size ≤ gb716)); have n5_ := am_ ((by rw [hg]; exact Nat.ne_of_lt (blk_lt (g := gb715) (o := .cells #[.int .i64 a0_0, .string a0_1, .string a0_2, .string a0_3, .int .i64 a0_4, .string a0_5, .bool a0_6, .int .i64 a0_7] 26 (0, 0)) (blk_ BK715.out)) : gb715 ≠ gb716)); have n6_ := am_ ((by rw [hg]; exact Nat.ne_of_gt (blk_lt (g := gb715) (o := .cells #[.int .i64 a0_0, .string a0_1, .string a0_2, .string a0_3, .int .i64 a0_4, .string a0_5, .bool a0_6, .int .i64 a0_7] 26 (0, 0)) (blk_ BK715.out)) : gb716 ≠ gb715)); clear BK715 HB; have BK715 := n0_; have HB := n1_; have BK716 := n2_; have GW716 := n3_; have GE716 := n4_; have NB715_716 := n5_; have NB716_715 := n6_; clear n0_ n1_ n2_ n3_ n4_ n5_ n6_ hb hbox hg) | ((with_reducible refine gate_dst (N := 5) rfl ?_); (try (refine gate_guard (by rfl) ?_; dsimp only)); refine box_event ?hg (N := 5) ?hd (cs := #[.string a2_0, .string a2_1, .string a2_2, .slice A2_3 l2_3.length c2_3, .slice A2_4 l2_4.length c2_4]) (t := 33) ?hr ?_; (case hd => rfl); (case hg => rfl); (case hr => first | (go_simp; done) | (go_simp; rfl)); intro gb717 hg w7 hbox hb; have n0_ := am_ (blk_below (g := gb715) (o := .cells #[.int .i64 a0_0, .string a0_1, .string a0_2, .string a0_3, .int .i64 a0_4, .string a0_5, .bool a0_6, .int .i64 a0_7] 26 (0, 0)) (blk_ BK715.out) hb); have n1_ := am_ (blk_below (g := gb716) (o := .cells #[.int .i64 a1_0, .string a1_1] 30 (0, 0)) (blk_ BK716.out) hb); have n2_ := am_ (below_step (bel_ HB.out) hb); have n3_ := am_ (hbox); have n4_ := am_ ((by rw [hg]; exact (below_size (bel_ HB.out)) : w.heap.size ≤ gb717)); have n5_ := am_ ((by rw [hg]; exact (below_size (bel_ HB.out)) : w.heap.size ≤ gb717)); have n6_ := am_ ((by rw [hg]; exact Nat.ne_of_lt (blk_lt (g := gb715) (o := .cells #[.int .i64 a0_0, .string a0_1, .string a0_2, .string a0_3, .int .i64 a0_4, .string a0_5, .bool a0_6, .int .i64 a0_7] 26 (0, 0)) (blk_ BK715.out)) : gb715 ≠ gb717)); have n7_ := am_ ((by rw [hg]; exact Nat.ne_of_gt (blk_lt (g := gb715) (o := .cells #[.int .i64 a0_0, .string a0_1, .string a0_2, .string a0_3, .int .i64 a0_4, .string a0_5, .bool a0_6, .int .i64 a0_7] 26 (0, 0)) (blk_ BK715.out)) : gb717 ≠ gb715)); have n8_ := am_ ((by rw [hg]; exact Nat.ne_of_lt (blk_lt (g := gb716) (o := .cells #[.int .i64 a1_0, .string a1_1] 30 (0, 0)) (blk_ BK716.out)) : gb716 ≠ gb717)); have n9_ := am_ ((by rw [hg]; exact Nat.ne_of_gt (blk_lt (g := gb716) (o := .cells #[.int .i64 a1_0, .string a1_1] 30 (0, 0)) (blk_ BK716.out)) : gb717 ≠ gb716)); clear BK715 BK716 HB; have BK715 := n0_; have BK716 := n1_; have HB := n2_; have BK717 := n3_; have GW717 := n4_; have GE717 := n5_; have NB715_717 := n6_; have NB717_715 := n7_; have NB716_717 := n8_; have NB717_716 := n9_; clear n0_ n1_ n2_ n3_ n4_ n5_ n6_ n7_ n8_ n9_ hb hbox hg))
 (try simp only [Act.put, List.setIfInBounds_toArray, List.set_cons_zero, List.set_cons_succ])
 go_cut [] (fun wc => ∃ (kq : Nat) (x716000_3 : Int) (x716001_3 : ByteArray) (x716002_3 : ByteArray) (x716003_3 : ByteArray) (x716004_3 : Int) (x716005_3 : ByteArray) (x716006_3 : Bool) (x716007_3 : Int) (x717000_3 : Int) (x717001_3 : ByteArray) (x718000_3 : ByteArray) (x718001_3 : ByteArray) (x718002_3 : ByteArray) (x718003_3 : List (S59)) (x718004_3 : List (S59)) (u718003 : Value) (u718004 : Value), Aside0 (tolllaw07_FilterPaths.j0 kq x716000_3 x716001_3 x716002_3 x716003_3 x716004_3 x716005_3 x716006_3 x716007_3 x717000_3 x717001_3 x718000_3 x718001_3 x718002_3 x718003_3 x718004_3 = some r) ∧ Aside0 (kq ≤ k) ∧ Aside0 (Kd.R k59 59 wc w.heap.size (fun k_ => some k_ ≠ (u718004 : Value).ownBlock) u718003 x718003_3) ∧ Aside0 (Kd.R k59 59 wc w.heap.size (fun k_ => some k_ ≠ (u718003 : Value).ownBlock) u718004 x718004_3) ∧ Aside0 (wc.heap[gb715]? = some (.cells #[.int .i64 x716000_3, .string x716001_3, .string x716002_3, .string x716003_3, .int .i64 x716004_3, .string x716005_3, .bool x716006_3, .int .i64 x716007_3] 26 (0, 0))) ∧ Aside0 (wc.heap[gb716]? = some (.cells #[.int .i64 x717000_3, .string x717001_3] 30 (0, 0))) ∧ Aside0 (wc.heap[gb717]? = some (.cells #[.string x718000_3, .string x718001_3, .string x718002_3, u718003, u718004] 33 (0, 0))) ∧ Aside0 (Below w.heap.size w wc))
 case first =>
  have H := HC4.out
  clear HC4
  obtain ⟨y718, hy718⟩ : ∃ y_ : List (S26), y_ = (([(⟨a0_0, a0_1, a0_2, a0_3, a0_4, a0_5, a0_6, a0_7⟩ : S26)] : List (S26))) := ⟨_, rfl⟩
  replace H : ((tolllaw07_Few.f k y718).bind fun t721 => (if 0 < (t721.length : Int) then ((tolllaw03_Few.f a1_0 a1_1).bind fun bt725 => ((tolllaw06_Asked.f k a2_0 a2_1 a2_2 l2_3 l2_4).bind fun bt727 => (tolllaw07_FilterPaths.j0 k ((rd_T26 t721 0).f0) ((rd_T26 t721 0).f1) ((rd_T26 t721 0).f2) ((rd_T26 t721 0).f3) ((rd_T26 t721 0).f4) ((rd_T26 t721 0).f5) ((rd_T26 t721 0).f6) ((rd_T26 t721 0).f7) bt725.1 bt725.2 bt727.1 bt727.2.1 bt727.2.2.1 bt727.2.2.2.1 bt727.2.2.2.2))) else (none))) = some r := by first | (rw [hy718]; with_reducible exact H) | (have H2_ := (Option.bind_some _ _).symm.trans H; rw [hy718]; with_reducible exact H2_) | (have H2_ := (Option.bind_some _ _).symm.trans H; with_reducible exact H2_) | with_reducible exact H | (rw [hy718]; exact H) | exact H
  have Ny718 := Aside0.mk hy718
  clear hy718
  replace H := Option.bind_eq_some_iff.mp H
  obtain ⟨t721, A80, H⟩ := H
  replace H : (if 0 < (t721.length : Int) then ((tolllaw03_Few.f a1_0 a1_1).bind fun bt725 => ((tolllaw06_Asked.f k a2_0 a2_1 a2_2 l2_3 l2_4).bind fun bt727 => (tolllaw07_FilterPaths.j0 k ((rd_T26 t721 0).f0) ((rd_T26 t721 0).f1) ((rd_T26 t721 0).f2) ((rd_T26 t721 0).f3) ((rd_T26 t721 0).f4) ((rd_T26 t721 0).f5) ((rd_T26 t721 0).f6) ((rd_T26 t721 0).f7) bt725.1 bt725.2 bt727.1 bt727.2.1 bt727.2.2.1 bt727.2.2.2.1 bt727.2.2.2.2))) else (none)) = some r := H
  have A8 := Aside0.mk A80
  clear A80
  by_cases c9 : 0 < (t721.length : Int)
  ·rw [if_pos c9] at H
   have c9b0 : decide (0 < (t721.length : Int)) = true := decide_eq_true c9
   have c9b1 : decide (0 < t721.length) = true := decide_eq_true (by omega)
   clear c9
   (first | rw [c9b0] | rw [c9b1] | rw [c9b2] | (simp only [i64_w, i32_w]; rw [c9b0]) | skip)
   replace H := Option.bind_eq_some_iff.mp H
   obtain ⟨⟨t725, t726⟩, A100, H⟩ := H
   replace H : ((tolllaw06_Asked.f k a2_0 a2_1 a2_2 l2_3 l2_4).bind fun bt727 => (tolllaw07_FilterPaths.j0 k ((rd_T26 t721 0).f0) ((rd_T26 t721 0).f1) ((rd_T26 t721 0).f2) ((rd_T26 t721 0).f3) ((rd_T26 t721 0).f4) ((rd_T26 t721 0).f5) ((rd_T26 t721 0).f6) ((rd_T26 t721 0).f7) t725 t726 bt727.1 bt727.2.1 bt727.2.2.1 bt727.2.2.2.1 bt727.2.2.2.2)) = some r := H
   have A10 := Aside0.mk A100
   clear A100
   replace H := Option.bind_eq_some_iff.mp H
   obtain ⟨⟨t727, t728, t729, t730, t733⟩, A110, H⟩ := H
   replace H : (tolllaw07_FilterPaths.j0 k ((rd_T26 t721 0).f0) ((rd_T26 t721 0).f1) ((rd_T26 t721 0).f2) ((rd_T26 t721 0).f3) ((rd_T26 t721 0).f4) ((rd_T26 t721 0).f5) ((rd_T26 t721 0).f6) ((rd_T26 t721 0).f7) t725 t726 t727 t728 t729 t730 t733) = some r := H
   have A11 := Aside0.mk A110
   clear A110
   have H' := Aside0.mk H
   clear H
   try go_wp2
   have n0_ := am_ (blk_drew BK715.out)
   have n1_ := am_ (blk_drew BK716.out)
   have n2_ := am_ (blk_drew BK717.out)
   have n3_ := am_ (below_drew1 HB.out)
   clear BK715 BK716 BK717 HB
   have BK715 := n0_
   have BK716 := n1_
   have BK717 := n2_
   have HB := n3_
   clear n0_ n1_ n2_ n3_
   refine start_ (n := 12) (S := fun w' => w'.cell? ⟨gb715, 0, none⟩ = some (.int .i64 a0_0) ∧ w'.cell? ⟨gb715, 1, none⟩ = some (.string a0_1) ∧ w'.cell? ⟨gb715, 2, none⟩ = some (.string a0_2) ∧ w'.cell? ⟨gb715, 3, none⟩ = some (.string a0_3) ∧ w'.cell? ⟨gb715, 4, none⟩ = some (.int .i64 a0_4) ∧ w'.cell? ⟨gb715, 5, none⟩ = some (.string a0_5) ∧ w'.cell? ⟨gb715, 6, none⟩ = some (.bool a0_6) ∧ w'.cell? ⟨gb715, 7, none⟩ = some (.int .i64 a0_7) ∧ w'.cell? ⟨gb716, 0, none⟩ = some (.int .i64 a1_0) ∧ w'.cell? ⟨gb716, 1, none⟩ = some (.string a1_1) ∧ w'.cell? ⟨gb717, 0, none⟩ = some (.string a2_0) ∧ w'.cell? ⟨gb717, 1, none⟩ = some (.string a2_1) ∧ w'.cell? ⟨gb717, 2, none⟩ = some (.string a2_2) ∧ w'.cell? ⟨gb717, 3, none⟩ = some (.slice A2_3 l2_3.length c2_3) ∧ w'.cell? ⟨gb717, 4, none⟩ = some (.slice A2_4 l2_4.length c2_4)) (ds := [9, 10, 11]) #[false, false, false, false, false, false, false, false, false, false, false, false] kr_ rfl rfl ⟨(blk_cell BK715.out 0).trans rfl, (blk_cell BK715.out 1).trans rfl, (blk_cell BK715.out 2).trans rfl, (blk_cell BK715.out 3).trans rfl, (blk_cell BK715.out 4).trans rfl, (blk_cell BK715.out 5).trans rfl, (blk_cell BK715.out 6).trans rfl, (blk_cell BK715.out 7).trans rfl, (blk_cell BK716.out 0).trans rfl, (blk_cell BK716.out 1).trans rfl, (blk_cell BK717.out 0).trans rfl, (blk_cell BK717.out 1).trans rfl, (blk_cell BK717.out 2).trans rfl, (blk_cell BK717.out 3).trans rfl, (blk_cell BK717.out 4).trans rfl⟩ (fun hHeld => ?_); refine with_tabW tolllaw07_FilterPaths.tab1 tolllaw07_FilterPaths.bits1 (fun HT_ HW_ => ?_)
   generalize w7.drew = w12 at BK715 BK716 BK717 HB hHeld ⊢
   refine take_ (i := 0) (N := some 10) (v := ?_) (a' := ?_) #[true, false, false, false, false, false, false, false, false, false, false, false] rfl rfl (take_ofW HT_.out HW_.out kr_) (fun _ _ _ h => h) (Or.inl ⟨by rfl, ?_⟩) hHeld ?_ ?_
   rotate_left
   ·rintro w' ⟨s0, s1, s2, s3, s4, s5, s6, s7, s8, s9, s10, s11, s12, s13, s14⟩
    go_simp
    with_reducible rfl
   rotate_left
   ·simp only [Act.put, sx_, s0_, s1_, i64_w, i32_w]
    rfl
   refine take_ (i := 5) (N := some 15) (v := ?_) (a' := ?_) #[true, false, false, false, false, true, false, false, false, false, false, false] rfl rfl (take_ofW HT_.out HW_.out kr_) (fun _ _ _ h => h) (Or.inl ⟨by rfl, ?_⟩) hHeld ?_ ?_
   rotate_left
   ·rintro w' ⟨s0, s1, s2, s3, s4, s5, s6, s7, s8, s9, s10, s11, s12, s13, s14⟩
    go_simp
    with_reducible rfl
   rotate_left
   ·simp only [Act.put, sx_, s0_, s1_, i64_w, i32_w]
    rfl
   refine take_ (i := 7) (N := some 17) (v := ?_) (a' := ?_) #[true, false, false, false, false, true, false, true, false, false, false, false] rfl rfl (take_ofW HT_.out HW_.out kr_) (fun _ _ _ h => h) (Or.inl ⟨by rfl, ?_⟩) hHeld ?_ ?_
   rotate_left
   ·rintro w' ⟨s0, s1, s2, s3, s4, s5, s6, s7, s8, s9, s10, s11, s12, s13, s14⟩
    go_simp
    with_reducible rfl
   rotate_left
   ·simp only [Act.put, sx_, s0_, s1_, i64_w, i32_w]
    rfl
   refine one_ (i := 1) (N := some 11) #[true, true, false, false, false, true, false, true, false, false, false, false] rfl rfl (one_of HT_.out kr_) (by decide) (fun K hK => ?_)
   refine Kd.R_lit_step k26 _ 26 ?hg (N := 11) ?hd (xs := ([(⟨a0_0, a0_1, a0_2, a0_3, a0_4, a0_5, a0_6, a0_7⟩ : S26)] : List (S26))) (inner := [.int .i64 a0_0, .string a0_1, .string a0_2, .string a0_3, .int .i64 a0_4, .string a0_5, .bool a0_6, .int .i64 a0_7]) (ok := fun _ => True) (okp := fun _ => True) ?hr ?hp (fun _ hk => hk) trivial (Below.refl _ _) (Nat.le_refl _) (by simp) ?_; (case hd => rfl); (case hg => rfl); (case hr => first | (go_simp; done) | (go_simp; rfl)); (case hp => exact (Reps.c8 (show Kd.M k26 _ _ _ (⟨a0_0, a0_1, a0_2, a0_3, a0_4, a0_5, a0_6, a0_7⟩ : S26) [.int .i64 a0_0, .string a0_1, .string a0_2, .string a0_3, .int .i64 a0_4, .string a0_5, .bool a0_6, .int .i64 a0_7] from (k26_mkM _ _ _ (⟨a0_0, a0_1, a0_2, a0_3, a0_4, a0_5, a0_6, a0_7⟩ : S26) )) (Reps.none _ _)))
   intro v719 w13 ho14 hb hg_ hnew_
   clear hg_ hnew_
   (first | rw [← Ny718.out] at ho14 | (simp only [Int.reduceToNat] at ho14; rw [← Ny718.out] at ho14))
   have n0_ := am_ (Kd.R_lower (Kd.R_newB ho14 (g := gb715) (o := .cells #[.int .i64 a0_0, .string a0_1, .string a0_2, .string a0_3, .int .i64 a0_4, .string a0_5, .bool a0_6, .int .i64 a0_7] 26 (0, 0)) (blk_ BK715.out)) (below_size (bel_ HB.out)))
   have n1_ := am_ (blk_below (g := gb715) (o := .cells #[.int .i64 a0_0, .string a0_1, .string a0_2, .string a0_3, .int .i64 a0_4, .string a0_5, .bool a0_6, .int .i64 a0_7] 26 (0, 0)) (blk_ BK715.out) hb)
   have n2_ := am_ (blk_below (g := gb716) (o := .cells #[.int .i64 a1_0, .string a1_1] 30 (0, 0)) (blk_ BK716.out) hb)
   have n3_ := am_ (blk_below (g := gb717) (o := .cells #[.string a2_0, .string a2_1, .string a2_2, .slice A2_3 l2_3.length c2_3, .slice A2_4 l2_4.length c2_4] 33 (0, 0)) (blk_ BK717.out) hb)
   have n4_ := am_ (below_step (bel_ HB.out) hb)
   clear BK715 BK716 BK717 HB
   have HO720 := n0_
   have BK715 := n1_
   have BK716 := n2_
   have BK717 := n3_
   have HB := n4_
   clear n0_ n1_ n2_ n3_ n4_ hb ho14
   obtain ⟨Ao15, co15, eo15⟩ := Kd.R_slice HO720.out
   (first | subst eo15 | (injection eo15 with f1_ f2_ f3_; have f4_ := f1_.symm; have f5_ := f3_.symm; clear f1_ f2_ f3_; subst f4_; subst f5_))
   refine hK.out _ _ ⟨(blk_cell BK715.out 0).trans rfl, (blk_cell BK715.out 1).trans rfl, (blk_cell BK715.out 2).trans rfl, (blk_cell BK715.out 3).trans rfl, (blk_cell BK715.out 4).trans rfl, (blk_cell BK715.out 5).trans rfl, (blk_cell BK715.out 6).trans rfl, (blk_cell BK715.out 7).trans rfl, (blk_cell BK716.out 0).trans rfl, (blk_cell BK716.out 1).trans rfl, (blk_cell BK717.out 0).trans rfl, (blk_cell BK717.out 1).trans rfl, (blk_cell BK717.out 2).trans rfl, (blk_cell BK717.out 3).trans rfl, (blk_cell BK717.out 4).trans rfl⟩ (fun hHeld => ?_)
   clear hK K
   refine norm_ (a' := ?_) ?_ ?_
   rotate_left
   ·show Act.put _ (some 11) _ = _
    simp only [Act.put, sx_, s0_, s1_, i64_w, i32_w]
    rfl
   refine one_ (i := 2) (N := some 12) #[true, true, true, false, false, true, false, true, false, false, false, false] rfl rfl (one_of HT_.out kr_) (by decide) (fun K hK => ?_)
   refine goes_ Tryz.func9 kr_ rfl #[.slice Ao15 y718.length co15] (by rfl) rfl rfl rl_ ?_
   with_reducible refine (tolllaw07_Few.calls k _ _ y718 t721 _ ?side1 ?side2 A8.out).mono ?_
   (case side1 => exact C_ (Kd.R_reads' HO720.out).2.2)
   (case side2 => exact (Kd.R_reads' HO720.out).2.1)
   rintro e w16 ⟨v722, rfl, ho0, hb⟩
   refine ⟨_, rfl, ?_⟩
   have n0_ := am_ (Kd.R_elder' (R_ HO720.out) (Kd.R_base ho0) hb)
   have n1_ := am_ (Kd.R_lower (Kd.R_newB (Kd.R_new' ho0 (Kd.R_lt (R_ HO720.out))) (g := gb715) (o := .cells #[.int .i64 a0_0, .string a0_1, .string a0_2, .string a0_3, .int .i64 a0_4, .string a0_5, .bool a0_6, .int .i64 a0_7] 26 (0, 0)) (blk_ BK715.out)) (below_size (bel_ HB.out)))
   have n2_ := am_ (blk_below (g := gb715) (o := .cells #[.int .i64 a0_0, .string a0_1, .string a0_2, .string a0_3, .int .i64 a0_4, .string a0_5, .bool a0_6, .int .i64 a0_7] 26 (0, 0)) (blk_ BK715.out) hb)
   have n3_ := am_ (blk_below (g := gb716) (o := .cells #[.int .i64 a1_0, .string a1_1] 30 (0, 0)) (blk_ BK716.out) hb)
   have n4_ := am_ (blk_below (g := gb717) (o := .cells #[.string a2_0, .string a2_1, .string a2_2, .slice A2_3 l2_3.length c2_3, .slice A2_4 l2_4.length c2_4] 33 (0, 0)) (blk_ BK717.out) hb)
   have n5_ := am_ (below_step (bel_ HB.out) hb)
   clear HO720 BK715 BK716 BK717 HB
   have HO720 := n0_
   have HO723 := n1_
   have BK715 := n2_
   have BK716 := n3_
   have BK717 := n4_
   have HB := n5_
   clear n0_ n1_ n2_ n3_ n4_ n5_
   (try clear hb)
   (try clear hb2)
   (try clear hk)
   (try clear hi)
   (try clear ho0)
   obtain ⟨Ao17, co17, eo17⟩ := Kd.R_slice HO723.out
   (first | subst eo17 | (injection eo17 with f1_ f2_ f3_; have f4_ := f1_.symm; have f5_ := f3_.symm; clear f1_ f2_ f3_; subst f4_; subst f5_))
   have p724 : 0 ≤ (0 : Int) := (by omega)
   have q724 : 0 < (t721.length : Int) := of_decide_eq_true as_
   obtain ⟨ad724, e724, hx724_0, hx724_1, hx724_2, hx724_3, hx724_4, hx724_5, hx724_6, hx724_7⟩ := at_T26 (Kd.R_reads' HO723.out).2.2 0 p724 q724
   cases e724
   have qi724 : (0 < t721.length) = True := eq_true (by omega)
   (try rw [show ((0 : Int)).toNat = 0 from rfl] at hx724_0)
   (try rw [show 0 * 8 = 0 from rfl] at hx724_0)
   (try rw [Addr.add_zero'] at hx724_0)
   (try rw [show ((0 : Int)).toNat = 0 from rfl] at hx724_1)
   (try rw [show 0 * 8 = 0 from rfl] at hx724_1)
   (try rw [Addr.add_zero'] at hx724_1)
   (try rw [show ((0 : Int)).toNat = 0 from rfl] at hx724_2)
   (try rw [show 0 * 8 = 0 from rfl] at hx724_2)
   (try rw [Addr.add_zero'] at hx724_2)
   (try rw [show ((0 : Int)).toNat = 0 from rfl] at hx724_3)
   (try rw [show 0 * 8 = 0 from rfl] at hx724_3)
   (try rw [Addr.add_zero'] at hx724_3)
   (try rw [show ((0 : Int)).toNat = 0 from rfl] at hx724_4)
   (try rw [show 0 * 8 = 0 from rfl] at hx724_4)
   (try rw [Addr.add_zero'] at hx724_4)
   (try rw [show ((0 : Int)).toNat = 0 from rfl] at hx724_5)
   (try rw [show 0 * 8 = 0 from rfl] at hx724_5)
   (try rw [Addr.add_zero'] at hx724_5)
   (try rw [show ((0 : Int)).toNat = 0 from rfl] at hx724_6)
   (try rw [show 0 * 8 = 0 from rfl] at hx724_6)
   (try rw [Addr.add_zero'] at hx724_6)
   (try rw [show ((0 : Int)).toNat = 0 from rfl] at hx724_7)
   (try rw [show 0 * 8 = 0 from rfl] at hx724_7)
   (try rw [Addr.add_zero'] at hx724_7)
   replace p724 := eq_true p724
   replace q724 := eq_true q724
   refine hK.out _ _ ⟨(blk_cell BK715.out 0).trans rfl, (blk_cell BK715.out 1).trans rfl, (blk_cell BK715.out 2).trans rfl, (blk_cell BK715.out 3).trans rfl, (blk_cell BK715.out 4).trans rfl, (blk_cell BK715.out 5).trans rfl, (blk_cell BK715.out 6).trans rfl, (blk_cell BK715.out 7).trans rfl, (blk_cell BK716.out 0).trans rfl, (blk_cell BK716.out 1).trans rfl, (blk_cell BK717.out 0).trans rfl, (blk_cell BK717.out 1).trans rfl, (blk_cell BK717.out 2).trans rfl, (blk_cell BK717.out 3).trans rfl, (blk_cell BK717.out 4).trans rfl⟩ (fun hHeld => ?_)
   refine restart_ (S2 := fun w' => w'.cell? ⟨gb715, 0, none⟩ = some (.int .i64 a0_0) ∧ w'.cell? ⟨gb715, 1, none⟩ = some (.string a0_1) ∧ w'.cell? ⟨gb715, 2, none⟩ = some (.string a0_2) ∧ w'.cell? ⟨gb715, 3, none⟩ = some (.string a0_3) ∧ w'.cell? ⟨gb715, 4, none⟩ = some (.int .i64 a0_4) ∧ w'.cell? ⟨gb715, 5, none⟩ = some (.string a0_5) ∧ w'.cell? ⟨gb715, 6, none⟩ = some (.bool a0_6) ∧ w'.cell? ⟨gb715, 7, none⟩ = some (.int .i64 a0_7) ∧ w'.cell? ⟨gb716, 0, none⟩ = some (.int .i64 a1_0) ∧ w'.cell? ⟨gb716, 1, none⟩ = some (.string a1_1) ∧ w'.cell? ⟨gb717, 0, none⟩ = some (.string a2_0) ∧ w'.cell? ⟨gb717, 1, none⟩ = some (.string a2_1) ∧ w'.cell? ⟨gb717, 2, none⟩ = some (.string a2_2) ∧ w'.cell? ⟨gb717, 3, none⟩ = some (.slice A2_3 l2_3.length c2_3) ∧ w'.cell? ⟨gb717, 4, none⟩ = some (.slice A2_4 l2_4.length c2_4) ∧ w'.cell? ad724 = some (.int .i64 ((rd_T26 t721 0).f0)) ∧ w'.cell? ⟨ad724.block, ad724.off + 1, none⟩ = some (.string ((rd_T26 t721 0).f1)) ∧ w'.cell? ⟨ad724.block, ad724.off + 2, none⟩ = some (.string ((rd_T26 t721 0).f2)) ∧ w'.cell? ⟨ad724.block, ad724.off + 3, none⟩ = some (.string ((rd_T26 t721 0).f3)) ∧ w'.cell? ⟨ad724.block, ad724.off + 4, none⟩ = some (.int .i64 ((rd_T26 t721 0).f4)) ∧ w'.cell? ⟨ad724.block, ad724.off + 5, none⟩ = some (.string ((rd_T26 t721 0).f5)) ∧ w'.cell? ⟨ad724.block, ad724.off + 6, none⟩ = some (.bool ((rd_T26 t721 0).f6)) ∧ w'.cell? ⟨ad724.block, ad724.off + 7, none⟩ = some (.int .i64 ((rd_T26 t721 0).f7))) (fun _ h_ => ⟨h_.1, h_.2.1, h_.2.2.1, h_.2.2.2.1, h_.2.2.2.2.1, h_.2.2.2.2.2.1, h_.2.2.2.2.2.2.1, h_.2.2.2.2.2.2.2.1, h_.2.2.2.2.2.2.2.2.1, h_.2.2.2.2.2.2.2.2.2.1, h_.2.2.2.2.2.2.2.2.2.2.1, h_.2.2.2.2.2.2.2.2.2.2.2.1, h_.2.2.2.2.2.2.2.2.2.2.2.2.1, h_.2.2.2.2.2.2.2.2.2.2.2.2.2.1, h_.2.2.2.2.2.2.2.2.2.2.2.2.2.2.1⟩) (by kernel_rfl) (by kernel_rfl) ⟨hHeld.1, hHeld.2.1, hHeld.2.2.1, hHeld.2.2.2.1, hHeld.2.2.2.2.1, hHeld.2.2.2.2.2.1, hHeld.2.2.2.2.2.2.1, hHeld.2.2.2.2.2.2.2.1, hHeld.2.2.2.2.2.2.2.2.1, hHeld.2.2.2.2.2.2.2.2.2.1, hHeld.2.2.2.2.2.2.2.2.2.2.1, hHeld.2.2.2.2.2.2.2.2.2.2.2.1, hHeld.2.2.2.2.2.2.2.2.2.2.2.2.1, hHeld.2.2.2.2.2.2.2.2.2.2.2.2.2.1, hHeld.2.2.2.2.2.2.2.2.2.2.2.2.2.2, hx724_0, hx724_1, hx724_2, hx724_3, hx724_4, hx724_5, hx724_6, hx724_7⟩ (fun hHeld => ?_)
   clear hK K
   refine norm_ (a' := ?_) ?_ ?_
   rotate_left
   ·show Act.put _ (some 12) _ = _
    simp only [Act.put, sx_, s0_, s1_, i64_w, i32_w]
    rfl
   refine pure_ (i := 3) (N := some 13) (v := ?_) (a' := ?_) #[true, true, true, true, false, true, false, true, false, false, false, false] rfl rfl (any_of HT_.out kr_) (fun _ _ _ h => h) (Or.inl ⟨by rfl, ?_⟩) ?_ ?_
   rotate_left
   ·intro w'
    go_simp
    with_reducible rfl
   rotate_left
   ·simp only [Act.put, sx_, s0_, s1_, i64_w, i32_w]
    rfl
   refine take_ (i := 4) (N := some 14) (v := ?_) (a' := ?_) #[true, true, true, true, true, true, false, true, false, false, false, false] rfl rfl (take_ofW HT_.out HW_.out kr_) (fun _ _ _ h => h) (Or.inl ⟨by rfl, ?_⟩) hHeld ?_ ?_
   rotate_left
   ·rintro w' ⟨s0, s1, s2, s3, s4, s5, s6, s7, s8, s9, s10, s11, s12, s13, s14, s15, s16, s17, s18, s19, s20, s21, s22⟩
    go_simp
    with_reducible rfl
   rotate_left
   ·simp only [Act.put, sx_, s0_, s1_, i64_w, i32_w]
    rfl
   refine one_ (i := 6) (N := some 16) #[true, true, true, true, true, true, true, true, false, false, false, false] rfl rfl (one_of HT_.out kr_) (by decide) (fun K hK => ?_)
   refine goes_ Tryz.func27 kr_ rfl #[.agg #[.int .i64 a1_0, .string a1_1]] (by rfl) rfl rfl rl_ ?_
   with_reducible refine (tolllaw03_Few.calls a1_0 a1_1 t725 t726 _ A10.out).mono ?_
   rintro e w18 ⟨rfl, hb⟩
   have HS15_ := (hb.cell (World.block_lt_of_cell? _ _ (hHeld.2.2.2.2.2.2.2.2.2.2.2.2.2.2.2.1))).trans (hHeld.2.2.2.2.2.2.2.2.2.2.2.2.2.2.2.1)
   have HS16_ := (hb.cell (World.block_lt_of_cell? _ _ (hHeld.2.2.2.2.2.2.2.2.2.2.2.2.2.2.2.2.1))).trans (hHeld.2.2.2.2.2.2.2.2.2.2.2.2.2.2.2.2.1)
   have HS17_ := (hb.cell (World.block_lt_of_cell? _ _ (hHeld.2.2.2.2.2.2.2.2.2.2.2.2.2.2.2.2.2.1))).trans (hHeld.2.2.2.2.2.2.2.2.2.2.2.2.2.2.2.2.2.1)
   have HS18_ := (hb.cell (World.block_lt_of_cell? _ _ (hHeld.2.2.2.2.2.2.2.2.2.2.2.2.2.2.2.2.2.2.1))).trans (hHeld.2.2.2.2.2.2.2.2.2.2.2.2.2.2.2.2.2.2.1)
   have HS19_ := (hb.cell (World.block_lt_of_cell? _ _ (hHeld.2.2.2.2.2.2.2.2.2.2.2.2.2.2.2.2.2.2.2.1))).trans (hHeld.2.2.2.2.2.2.2.2.2.2.2.2.2.2.2.2.2.2.2.1)
   have HS20_ := (hb.cell (World.block_lt_of_cell? _ _ (hHeld.2.2.2.2.2.2.2.2.2.2.2.2.2.2.2.2.2.2.2.2.1))).trans (hHeld.2.2.2.2.2.2.2.2.2.2.2.2.2.2.2.2.2.2.2.2.1)
   have HS21_ := (hb.cell (World.block_lt_of_cell? _ _ (hHeld.2.2.2.2.2.2.2.2.2.2.2.2.2.2.2.2.2.2.2.2.2.1))).trans (hHeld.2.2.2.2.2.2.2.2.2.2.2.2.2.2.2.2.2.2.2.2.2.1)
   have HS22_ := (hb.cell (World.block_lt_of_cell? _ _ (hHeld.2.2.2.2.2.2.2.2.2.2.2.2.2.2.2.2.2.2.2.2.2.2))).trans (hHeld.2.2.2.2.2.2.2.2.2.2.2.2.2.2.2.2.2.2.2.2.2.2)
   refine ⟨_, rfl, ?_⟩
   have n0_ := am_ (Kd.R_below (R_ HO720.out) hb)
   have n1_ := am_ (Kd.R_below (R_ HO723.out) hb)
   have n2_ := am_ (blk_below (g := gb715) (o := .cells #[.int .i64 a0_0, .string a0_1, .string a0_2, .string a0_3, .int .i64 a0_4, .string a0_5, .bool a0_6, .int .i64 a0_7] 26 (0, 0)) (blk_ BK715.out) hb)
   have n3_ := am_ (blk_below (g := gb716) (o := .cells #[.int .i64 a1_0, .string a1_1] 30 (0, 0)) (blk_ BK716.out) hb)
   have n4_ := am_ (blk_below (g := gb717) (o := .cells #[.string a2_0, .string a2_1, .string a2_2, .slice A2_3 l2_3.length c2_3, .slice A2_4 l2_4.length c2_4] 33 (0, 0)) (blk_ BK717.out) hb)
   have n5_ := am_ (below_step (bel_ HB.out) hb)
   clear HO720 HO723 BK715 BK716 BK717 HB
   have HO720 := n0_
   have HO723 := n1_
   have BK715 := n2_
   have BK716 := n3_
   have BK717 := n4_
   have HB := n5_
   clear n0_ n1_ n2_ n3_ n4_ n5_
   (try clear hb)
   (try clear hb2)
   (try clear hk)
   (try clear hi)
   refine hK.out _ _ ⟨(blk_cell BK715.out 0).trans rfl, (blk_cell BK715.out 1).trans rfl, (blk_cell BK715.out 2).trans rfl, (blk_cell BK715.out 3).trans rfl, (blk_cell BK715.out 4).trans rfl, (blk_cell BK715.out 5).trans rfl, (blk_cell BK715.out 6).trans rfl, (blk_cell BK715.out 7).trans rfl, (blk_cell BK716.out 0).trans rfl, (blk_cell BK716.out 1).trans rfl, (blk_cell BK717.out 0).trans rfl, (blk_cell BK717.out 1).trans rfl, (blk_cell BK717.out 2).trans rfl, (blk_cell BK717.out 3).trans rfl, (blk_cell BK717.out 4).trans rfl, HS15_, HS16_, HS17_, HS18_, HS19_, HS20_, HS21_, HS22_⟩ (fun hHeld => ?_)
   clear hK K
   refine norm_ (a' := ?_) ?_ ?_
   rotate_left
   ·show Act.put _ (some 16) _ = _
    simp only [Act.put, sx_, s0_, s1_, i64_w, i32_w]
    rfl
   refine one_ (i := 8) (N := some 18) #[true, true, true, true, true, true, true, true, true, false, false, false] rfl rfl (one_of HT_.out kr_) (by decide) (fun K hK => ?_)
   refine goes_ Tryz.func16 kr_ rfl #[.agg #[.string a2_0, .string a2_1, .string a2_2, .slice A2_3 l2_3.length c2_3, .slice A2_4 l2_4.length c2_4]] (by rfl) rfl rfl rl_ ?_
   with_reducible refine (tolllaw06_Asked.calls k a2_0 a2_1 a2_2 _ _ l2_3 _ _ l2_4 t727 t728 t729 t730 t733 _ ?side1 ?side2 ?side3 ?side4 A11.out).mono ?_
   (case side1 => exact C_ (Kd.C_below HR2_3.out HB.out))
   (case side2 => exact HC2_3.out)
   (case side3 => exact C_ (Kd.C_below HR2_4.out HB.out))
   (case side4 => exact HC2_4.out)
   rintro e w19 ⟨v731, v734, rfl, ho0, ho1, hb⟩
   have HS15_ := (hb.cell (World.block_lt_of_cell? _ _ (hHeld.2.2.2.2.2.2.2.2.2.2.2.2.2.2.2.1))).trans (hHeld.2.2.2.2.2.2.2.2.2.2.2.2.2.2.2.1)
   have HS16_ := (hb.cell (World.block_lt_of_cell? _ _ (hHeld.2.2.2.2.2.2.2.2.2.2.2.2.2.2.2.2.1))).trans (hHeld.2.2.2.2.2.2.2.2.2.2.2.2.2.2.2.2.1)
   have HS17_ := (hb.cell (World.block_lt_of_cell? _ _ (hHeld.2.2.2.2.2.2.2.2.2.2.2.2.2.2.2.2.2.1))).trans (hHeld.2.2.2.2.2.2.2.2.2.2.2.2.2.2.2.2.2.1)
   have HS18_ := (hb.cell (World.block_lt_of_cell? _ _ (hHeld.2.2.2.2.2.2.2.2.2.2.2.2.2.2.2.2.2.2.1))).trans (hHeld.2.2.2.2.2.2.2.2.2.2.2.2.2.2.2.2.2.2.1)
   have HS19_ := (hb.cell (World.block_lt_of_cell? _ _ (hHeld.2.2.2.2.2.2.2.2.2.2.2.2.2.2.2.2.2.2.2.1))).trans (hHeld.2.2.2.2.2.2.2.2.2.2.2.2.2.2.2.2.2.2.2.1)
   have HS20_ := (hb.cell (World.block_lt_of_cell? _ _ (hHeld.2.2.2.2.2.2.2.2.2.2.2.2.2.2.2.2.2.2.2.2.1))).trans (hHeld.2.2.2.2.2.2.2.2.2.2.2.2.2.2.2.2.2.2.2.2.1)
   have HS21_ := (hb.cell (World.block_lt_of_cell? _ _ (hHeld.2.2.2.2.2.2.2.2.2.2.2.2.2.2.2.2.2.2.2.2.2.1))).trans (hHeld.2.2.2.2.2.2.2.2.2.2.2.2.2.2.2.2.2.2.2.2.2.1)
   have HS22_ := (hb.cell (World.block_lt_of_cell? _ _ (hHeld.2.2.2.2.2.2.2.2.2.2.2.2.2.2.2.2.2.2.2.2.2.2))).trans (hHeld.2.2.2.2.2.2.2.2.2.2.2.2.2.2.2.2.2.2.2.2.2.2)
   refine ⟨_, rfl, ?_⟩
   have n0_ := am_ (Kd.R_below (R_ HO720.out) hb)
   have n1_ := am_ (Kd.R_below (R_ HO723.out) hb)
   have n2_ := am_ (Kd.R_lower ho0 (below_size (bel_ HB.out)))
   have n3_ := am_ (Kd.R_lower ho1 (below_size (bel_ HB.out)))
   have n4_ := am_ (blk_below (g := gb715) (o := .cells #[.int .i64 a0_0, .string a0_1, .string a0_2, .string a0_3, .int .i64 a0_4, .string a0_5, .bool a0_6, .int .i64 a0_7] 26 (0, 0)) (blk_ BK715.out) hb)
   have n5_ := am_ (blk_below (g := gb716) (o := .cells #[.int .i64 a1_0, .string a1_1] 30 (0, 0)) (blk_ BK716.out) hb)
   have n6_ := am_ (blk_below (g := gb717) (o := .cells #[.string a2_0, .string a2_1, .string a2_2, .slice A2_3 l2_3.length c2_3, .slice A2_4 l2_4.length c2_4] 33 (0, 0)) (blk_ BK717.out) hb)
   have n7_ := am_ (below_step (bel_ HB.out) hb)
   clear HO720 HO723 BK715 BK716 BK717 HB
   have HO720 := n0_
   have HO723 := n1_
   have HO732 := n2_
   have HO735 := n3_
   have BK715 := n4_
   have BK716 := n5_
   have BK717 := n6_
   have HB := n7_
   clear n0_ n1_ n2_ n3_ n4_ n5_ n6_ n7_
   (try clear hb)
   (try clear hb2)
   (try clear hk)
   (try clear hi)
   (try clear ho0)
   (try clear ho1)
   obtain ⟨Ao33, co33, eo33⟩ := Kd.R_slice HO732.out
   (first | subst eo33 | (injection eo33 with f1_ f2_ f3_; have f4_ := f1_.symm; have f5_ := f3_.symm; clear f1_ f2_ f3_; subst f4_; subst f5_))
   obtain ⟨Ao35, co35, eo35⟩ := Kd.R_slice HO735.out
   (first | subst eo35 | (injection eo35 with f1_ f2_ f3_; have f4_ := f1_.symm; have f5_ := f3_.symm; clear f1_ f2_ f3_; subst f4_; subst f5_))
   refine hK.out _ _ ⟨(blk_cell BK715.out 0).trans rfl, (blk_cell BK715.out 1).trans rfl, (blk_cell BK715.out 2).trans rfl, (blk_cell BK715.out 3).trans rfl, (blk_cell BK715.out 4).trans rfl, (blk_cell BK715.out 5).trans rfl, (blk_cell BK715.out 6).trans rfl, (blk_cell BK715.out 7).trans rfl, (blk_cell BK716.out 0).trans rfl, (blk_cell BK716.out 1).trans rfl, (blk_cell BK717.out 0).trans rfl, (blk_cell BK717.out 1).trans rfl, (blk_cell BK717.out 2).trans rfl, (blk_cell BK717.out 3).trans rfl, (blk_cell BK717.out 4).trans rfl, HS15_, HS16_, HS17_, HS18_, HS19_, HS20_, HS21_, HS22_⟩ (fun hHeld => ?_)
   clear hK K
   refine norm_ (a' := ?_) ?_ ?_
   rotate_left
   ·show Act.put _ (some 18) _ = _
    simp only [Act.put, sx_, s0_, s1_, i64_w, i32_w]
    rfl
   refine last_ (i := 9) (N := none) #[true, true, true, true, true, true, true, true, true, true, false, false] rfl rfl (one_of HT_.out kr_) (by decide) (fun K hK => ?_)
   have hs20 : w19.cell? ⟨gb715, 0, none⟩ = some (.int .i64 a0_0) := (blk_cell BK715.out 0).trans rfl
   have hfs20 := blk_frozen BK715.out 0
   have hns20_1 := NB716_715.out
   have hns20_2 := NB717_715.out
   have hms20_1 := NB715_716.out
   have hms20_2 := NB715_717.out
   have hs21 : w19.cell? ⟨gb715, 1, none⟩ = some (.string a0_1) := (blk_cell BK715.out 1).trans rfl
   have hfs21 := blk_frozen BK715.out 1
   have hns21_1 := NB716_715.out
   have hns21_2 := NB717_715.out
   have hms21_1 := NB715_716.out
   have hms21_2 := NB715_717.out
   have hs22 : w19.cell? ⟨gb715, 2, none⟩ = some (.string a0_2) := (blk_cell BK715.out 2).trans rfl
   have hfs22 := blk_frozen BK715.out 2
   have hns22_1 := NB716_715.out
   have hns22_2 := NB717_715.out
   have hms22_1 := NB715_716.out
   have hms22_2 := NB715_717.out
   have hs23 : w19.cell? ⟨gb715, 3, none⟩ = some (.string a0_3) := (blk_cell BK715.out 3).trans rfl
   have hfs23 := blk_frozen BK715.out 3
   have hns23_1 := NB716_715.out
   have hns23_2 := NB717_715.out
   have hms23_1 := NB715_716.out
   have hms23_2 := NB715_717.out
   have hs24 : w19.cell? ⟨gb715, 4, none⟩ = some (.int .i64 a0_4) := (blk_cell BK715.out 4).trans rfl
   have hfs24 := blk_frozen BK715.out 4
   have hns24_1 := NB716_715.out
   have hns24_2 := NB717_715.out
   have hms24_1 := NB715_716.out
   have hms24_2 := NB715_717.out
   have hs25 : w19.cell? ⟨gb715, 5, none⟩ = some (.string a0_5) := (blk_cell BK715.out 5).trans rfl
   have hfs25 := blk_frozen BK715.out 5
   have hns25_1 := NB716_715.out
   have hns25_2 := NB717_715.out
   have hms25_1 := NB715_716.out
   have hms25_2 := NB715_717.out
   have hs26 : w19.cell? ⟨gb715, 6, none⟩ = some (.bool a0_6) := (blk_cell BK715.out 6).trans rfl
   have hfs26 := blk_frozen BK715.out 6
   have hns26_1 := NB716_715.out
   have hns26_2 := NB717_715.out
   have hms26_1 := NB715_716.out
   have hms26_2 := NB715_717.out
   have hs27 : w19.cell? ⟨gb715, 7, none⟩ = some (.int .i64 a0_7) := (blk_cell BK715.out 7).trans rfl
   have hfs27 := blk_frozen BK715.out 7
   have hns27_1 := NB716_715.out
   have hns27_2 := NB717_715.out
   have hms27_1 := NB715_716.out
   have hms27_2 := NB715_717.out
   refine skip_ (w1 := ?_) ?_ ?_ ?_ ?_
   rotate_left
   ·rfl
   ·rfl
   ·go_simp
    rfl
   refine hK.out _ _ ?_
   clear hK K
   refine last_ (i := 10) (N := none) #[true, true, true, true, true, true, true, true, true, true, true, false] rfl rfl (one_of HT_.out kr_) (by decide) (fun K hK => ?_)
   have hs28 : w19.cell? ⟨gb716, 0, none⟩ = some (.int .i64 a1_0) := (blk_cell BK716.out 0).trans rfl
   have hfs28 := blk_frozen BK716.out 0
   have hns28_0 := NB715_716.out
   have hns28_2 := NB717_716.out
   have hms28_0 := NB716_715.out
   have hms28_2 := NB716_717.out
   have hs29 : w19.cell? ⟨gb716, 1, none⟩ = some (.string a1_1) := (blk_cell BK716.out 1).trans rfl
   have hfs29 := blk_frozen BK716.out 1
   have hns29_0 := NB715_716.out
   have hns29_2 := NB717_716.out
   have hms29_0 := NB716_715.out
   have hms29_2 := NB716_717.out
   refine skip_ (w1 := ?_) ?_ ?_ ?_ ?_
   rotate_left
   ·rfl
   ·rfl
   ·go_simp
    rfl
   refine hK.out _ _ ?_
   clear hK K
   refine last_ (i := 11) (N := none) #[true, true, true, true, true, true, true, true, true, true, true, true] rfl rfl (one_of HT_.out kr_) (by decide) (fun K hK => ?_)
   have hs30 : w19.cell? ⟨gb717, 0, none⟩ = some (.string a2_0) := (blk_cell BK717.out 0).trans rfl
   have hfs30 := blk_frozen BK717.out 0
   have hns30_0 := NB715_717.out
   have hns30_1 := NB716_717.out
   have hms30_0 := NB717_715.out
   have hms30_1 := NB717_716.out
   have hs31 : w19.cell? ⟨gb717, 1, none⟩ = some (.string a2_1) := (blk_cell BK717.out 1).trans rfl
   have hfs31 := blk_frozen BK717.out 1
   have hns31_0 := NB715_717.out
   have hns31_1 := NB716_717.out
   have hms31_0 := NB717_715.out
   have hms31_1 := NB717_716.out
   have hs32 : w19.cell? ⟨gb717, 2, none⟩ = some (.string a2_2) := (blk_cell BK717.out 2).trans rfl
   have hfs32 := blk_frozen BK717.out 2
   have hns32_0 := NB715_717.out
   have hns32_1 := NB716_717.out
   have hms32_0 := NB717_715.out
   have hms32_1 := NB717_716.out
   have hs34 : w19.cell? ⟨gb717, 3, none⟩ = some (.slice A2_3 l2_3.length c2_3) := (blk_cell BK717.out 3).trans rfl
   have hfs34 := blk_frozen BK717.out 3
   have hns34_0 := NB715_717.out
   have hns34_1 := NB716_717.out
   have hms34_0 := NB717_715.out
   have hms34_1 := NB717_716.out
   have hs36 : w19.cell? ⟨gb717, 4, none⟩ = some (.slice A2_4 l2_4.length c2_4) := (blk_cell BK717.out 4).trans rfl
   have hfs36 := blk_frozen BK717.out 4
   have hns36_0 := NB715_717.out
   have hns36_1 := NB716_717.out
   have hms36_0 := NB717_715.out
   have hms36_1 := NB717_716.out
   refine skip_ (w1 := ?_) ?_ ?_ ?_ ?_
   rotate_left
   ·rfl
   ·rfl
   ·go_simp
    rfl
   refine hK.out _ _ ?_
   clear hK K
   refine done_ (done_of HT_.out kr_) ?_
   try go_wp2
   go_meet
   case rel => exact ⟨_, ((rd_T26 t721 0).f0), ((rd_T26 t721 0).f1), ((rd_T26 t721 0).f2), ((rd_T26 t721 0).f3), ((rd_T26 t721 0).f4), ((rd_T26 t721 0).f5), ((rd_T26 t721 0).f6), ((rd_T26 t721 0).f7), (t725), (t726), (t727), (t728), (t729), (t730), (t733), (.slice Ao33 t730.length co33), (.slice Ao35 t733.length co35), H', ⟨by first | omega | exact Nat.le_refl _⟩, ⟨by (with_reducible repeat (first | apply Kd.R_alloc | apply Kd.R_drewN | apply Kd.R_drew)); exact Kd.R_mono (Kd.R_far (p := ⟨gb717, 4, none⟩) (Kd.R_far (p := ⟨gb717, 3, none⟩) (Kd.R_far (p := ⟨gb717, 2, none⟩) (Kd.R_far (p := ⟨gb717, 1, none⟩) (Kd.R_far (p := ⟨gb717, 0, none⟩) (Kd.R_far (p := ⟨gb716, 1, none⟩) (Kd.R_far (p := ⟨gb716, 0, none⟩) (Kd.R_far (p := ⟨gb715, 7, none⟩) (Kd.R_far (p := ⟨gb715, 6, none⟩) (Kd.R_far (p := ⟨gb715, 5, none⟩) (Kd.R_far (p := ⟨gb715, 4, none⟩) (Kd.R_far (p := ⟨gb715, 3, none⟩) (Kd.R_far (p := ⟨gb715, 2, none⟩) (Kd.R_far (p := ⟨gb715, 1, none⟩) (Kd.R_far (p := ⟨gb715, 0, none⟩) (Kd.R_types (Kd.R_types (Kd.R_types HO732.out BK715.out (by decide)) BK716.out (by decide)) BK717.out (by decide)) (fun _ hk => hk.1.1.2) (.int .i64 ((rd_T26 t721 0).f0))) (fun _ hk => hk.1.1.2) (.string ((rd_T26 t721 0).f1))) (fun _ hk => hk.1.1.2) (.string ((rd_T26 t721 0).f2))) (fun _ hk => hk.1.1.2) (.string ((rd_T26 t721 0).f3))) (fun _ hk => hk.1.1.2) (.int .i64 ((rd_T26 t721 0).f4))) (fun _ hk => hk.1.1.2) (.string ((rd_T26 t721 0).f5))) (fun _ hk => hk.1.1.2) (.bool ((rd_T26 t721 0).f6))) (fun _ hk => hk.1.1.2) (.int .i64 ((rd_T26 t721 0).f7))) (fun _ hk => hk.1.2) (.int .i64 t725)) (fun _ hk => hk.1.2) (.string t726)) (fun _ hk => hk.2) (.string t727)) (fun _ hk => hk.2) (.string t728)) (fun _ hk => hk.2) (.string t729)) (fun _ hk => hk.2) (.slice Ao33 t730.length co33)) (fun _ hk => hk.2) (.slice Ao35 t733.length co35)) (fun _ hk => hk.1.1.1)⟩, ⟨by (with_reducible repeat (first | apply Kd.R_alloc | apply Kd.R_drewN | apply Kd.R_drew)); exact Kd.R_mono (Kd.R_far (p := ⟨gb717, 4, none⟩) (Kd.R_far (p := ⟨gb717, 3, none⟩) (Kd.R_far (p := ⟨gb717, 2, none⟩) (Kd.R_far (p := ⟨gb717, 1, none⟩) (Kd.R_far (p := ⟨gb717, 0, none⟩) (Kd.R_far (p := ⟨gb716, 1, none⟩) (Kd.R_far (p := ⟨gb716, 0, none⟩) (Kd.R_far (p := ⟨gb715, 7, none⟩) (Kd.R_far (p := ⟨gb715, 6, none⟩) (Kd.R_far (p := ⟨gb715, 5, none⟩) (Kd.R_far (p := ⟨gb715, 4, none⟩) (Kd.R_far (p := ⟨gb715, 3, none⟩) (Kd.R_far (p := ⟨gb715, 2, none⟩) (Kd.R_far (p := ⟨gb715, 1, none⟩) (Kd.R_far (p := ⟨gb715, 0, none⟩) (Kd.R_types (Kd.R_types (Kd.R_types HO735.out BK715.out (by decide)) BK716.out (by decide)) BK717.out (by decide)) (fun _ hk => hk.1.1.2) (.int .i64 ((rd_T26 t721 0).f0))) (fun _ hk => hk.1.1.2) (.string ((rd_T26 t721 0).f1))) (fun _ hk => hk.1.1.2) (.string ((rd_T26 t721 0).f2))) (fun _ hk => hk.1.1.2) (.string ((rd_T26 t721 0).f3))) (fun _ hk => hk.1.1.2) (.int .i64 ((rd_T26 t721 0).f4))) (fun _ hk => hk.1.1.2) (.string ((rd_T26 t721 0).f5))) (fun _ hk => hk.1.1.2) (.bool ((rd_T26 t721 0).f6))) (fun _ hk => hk.1.1.2) (.int .i64 ((rd_T26 t721 0).f7))) (fun _ hk => hk.1.2) (.int .i64 t725)) (fun _ hk => hk.1.2) (.string t726)) (fun _ hk => hk.2) (.string t727)) (fun _ hk => hk.2) (.string t728)) (fun _ hk => hk.2) (.string t729)) (fun _ hk => hk.2) (.slice Ao33 t730.length co33)) (fun _ hk => hk.2) (.slice Ao35 t733.length co35)) (fun _ hk => hk.1.1.1)⟩, ⟨by (with_reducible repeat (first | refine blk_drewN ?_ _ | refine blk_drew ?_ | refine blk_alloc ?_ _)); refine blk_far ?_ NB715_717.out _; (with_reducible repeat (first | refine blk_drewN ?_ _ | refine blk_drew ?_ | refine blk_alloc ?_ _)); refine blk_far ?_ NB715_717.out _; (with_reducible repeat (first | refine blk_drewN ?_ _ | refine blk_drew ?_ | refine blk_alloc ?_ _)); refine blk_far ?_ NB715_717.out _; (with_reducible repeat (first | refine blk_drewN ?_ _ | refine blk_drew ?_ | refine blk_alloc ?_ _)); refine blk_far ?_ NB715_717.out _; (with_reducible repeat (first | refine blk_drewN ?_ _ | refine blk_drew ?_ | refine blk_alloc ?_ _)); refine blk_far ?_ NB715_717.out _; (with_reducible repeat (first | refine blk_drewN ?_ _ | refine blk_drew ?_ | refine blk_alloc ?_ _)); refine blk_far ?_ NB715_716.out _; (with_reducible repeat (first | refine blk_drewN ?_ _ | refine blk_drew ?_ | refine blk_alloc ?_ _)); refine blk_far ?_ NB715_716.out _; (with_reducible repeat (first | refine blk_drewN ?_ _ | refine blk_drew ?_ | refine blk_alloc ?_ _)); refine blk_put (cs := #[.int .i64 ((rd_T26 t721 0).f0), .string ((rd_T26 t721 0).f1), .string ((rd_T26 t721 0).f2), .string ((rd_T26 t721 0).f3), .int .i64 ((rd_T26 t721 0).f4), .string ((rd_T26 t721 0).f5), .bool ((rd_T26 t721 0).f6), .int .i64 a0_7]) ?_ 7 _ rfl; (with_reducible repeat (first | refine blk_drewN ?_ _ | refine blk_drew ?_ | refine blk_alloc ?_ _)); refine blk_put (cs := #[.int .i64 ((rd_T26 t721 0).f0), .string ((rd_T26 t721 0).f1), .string ((rd_T26 t721 0).f2), .string ((rd_T26 t721 0).f3), .int .i64 ((rd_T26 t721 0).f4), .string ((rd_T26 t721 0).f5), .bool a0_6, .int .i64 a0_7]) ?_ 6 _ rfl; (with_reducible repeat (first | refine blk_drewN ?_ _ | refine blk_drew ?_ | refine blk_alloc ?_ _)); refine blk_put (cs := #[.int .i64 ((rd_T26 t721 0).f0), .string ((rd_T26 t721 0).f1), .string ((rd_T26 t721 0).f2), .string ((rd_T26 t721 0).f3), .int .i64 ((rd_T26 t721 0).f4), .string a0_5, .bool a0_6, .int .i64 a0_7]) ?_ 5 _ rfl; (with_reducible repeat (first | refine blk_drewN ?_ _ | refine blk_drew ?_ | refine blk_alloc ?_ _)); refine blk_put (cs := #[.int .i64 ((rd_T26 t721 0).f0), .string ((rd_T26 t721 0).f1), .string ((rd_T26 t721 0).f2), .string ((rd_T26 t721 0).f3), .int .i64 a0_4, .string a0_5, .bool a0_6, .int .i64 a0_7]) ?_ 4 _ rfl; (with_reducible repeat (first | refine blk_drewN ?_ _ | refine blk_drew ?_ | refine blk_alloc ?_ _)); refine blk_put (cs := #[.int .i64 ((rd_T26 t721 0).f0), .string ((rd_T26 t721 0).f1), .string ((rd_T26 t721 0).f2), .string a0_3, .int .i64 a0_4, .string a0_5, .bool a0_6, .int .i64 a0_7]) ?_ 3 _ rfl; (with_reducible repeat (first | refine blk_drewN ?_ _ | refine blk_drew ?_ | refine blk_alloc ?_ _)); refine blk_put (cs := #[.int .i64 ((rd_T26 t721 0).f0), .string ((rd_T26 t721 0).f1), .string a0_2, .string a0_3, .int .i64 a0_4, .string a0_5, .bool a0_6, .int .i64 a0_7]) ?_ 2 _ rfl; (with_reducible repeat (first | refine blk_drewN ?_ _ | refine blk_drew ?_ | refine blk_alloc ?_ _)); refine blk_put (cs := #[.int .i64 ((rd_T26 t721 0).f0), .string a0_1, .string a0_2, .string a0_3, .int .i64 a0_4, .string a0_5, .bool a0_6, .int .i64 a0_7]) ?_ 1 _ rfl; (with_reducible repeat (first | refine blk_drewN ?_ _ | refine blk_drew ?_ | refine blk_alloc ?_ _)); refine blk_put (cs := #[.int .i64 a0_0, .string a0_1, .string a0_2, .string a0_3, .int .i64 a0_4, .string a0_5, .bool a0_6, .int .i64 a0_7]) ?_ 0 _ rfl; (with_reducible repeat (first | refine blk_drewN ?_ _ | refine blk_drew ?_ | refine blk_alloc ?_ _)); exact BK715.out⟩, ⟨by (with_reducible repeat (first | refine blk_drewN ?_ _ | refine blk_drew ?_ | refine blk_alloc ?_ _)); refine blk_far ?_ NB716_717.out _; (with_reducible repeat (first | refine blk_drewN ?_ _ | refine blk_drew ?_ | refine blk_alloc ?_ _)); refine blk_far ?_ NB716_717.out _; (with_reducible repeat (first | refine blk_drewN ?_ _ | refine blk_drew ?_ | refine blk_alloc ?_ _)); refine blk_far ?_ NB716_717.out _; (with_reducible repeat (first | refine blk_drewN ?_ _ | refine blk_drew ?_ | refine blk_alloc ?_ _)); refine blk_far ?_ NB716_717.out _; (with_reducible repeat (first | refine blk_drewN ?_ _ | refine blk_drew ?_ | refine blk_alloc ?_ _)); refine blk_far ?_ NB716_717.out _; (with_reducible repeat (first | refine blk_drewN ?_ _ | refine blk_drew ?_ | refine blk_alloc ?_ _)); refine blk_put (cs := #[.int .i64 t725, .string a1_1]) ?_ 1 _ rfl; (with_reducible repeat (first | refine blk_drewN ?_ _ | refine blk_drew ?_ | refine blk_alloc ?_ _)); refine blk_put (cs := #[.int .i64 a1_0, .string a1_1]) ?_ 0 _ rfl; (with_reducible repeat (first | refine blk_drewN ?_ _ | refine blk_drew ?_ | refine blk_alloc ?_ _)); refine blk_far ?_ NB716_715.out _; (with_reducible repeat (first | refine blk_drewN ?_ _ | refine blk_drew ?_ | refine blk_alloc ?_ _)); refine blk_far ?_ NB716_715.out _; (with_reducible repeat (first | refine blk_drewN ?_ _ | refine blk_drew ?_ | refine blk_alloc ?_ _)); refine blk_far ?_ NB716_715.out _; (with_reducible repeat (first | refine blk_drewN ?_ _ | refine blk_drew ?_ | refine blk_alloc ?_ _)); refine blk_far ?_ NB716_715.out _; (with_reducible repeat (first | refine blk_drewN ?_ _ | refine blk_drew ?_ | refine blk_alloc ?_ _)); refine blk_far ?_ NB716_715.out _; (with_reducible repeat (first | refine blk_drewN ?_ _ | refine blk_drew ?_ | refine blk_alloc ?_ _)); refine blk_far ?_ NB716_715.out _; (with_reducible repeat (first | refine blk_drewN ?_ _ | refine blk_drew ?_ | refine blk_alloc ?_ _)); refine blk_far ?_ NB716_715.out _; (with_reducible repeat (first | refine blk_drewN ?_ _ | refine blk_drew ?_ | refine blk_alloc ?_ _)); refine blk_far ?_ NB716_715.out _; (with_reducible repeat (first | refine blk_drewN ?_ _ | refine blk_drew ?_ | refine blk_alloc ?_ _)); exact BK716.out⟩, ⟨by (with_reducible repeat (first | refine blk_drewN ?_ _ | refine blk_drew ?_ | refine blk_alloc ?_ _)); refine blk_put (cs := #[.string t727, .string t728, .string t729, .slice Ao33 t730.length co33, .slice A2_4 l2_4.length c2_4]) ?_ 4 _ rfl; (with_reducible repeat (first | refine blk_drewN ?_ _ | refine blk_drew ?_ | refine blk_alloc ?_ _)); refine blk_put (cs := #[.string t727, .string t728, .string t729, .slice A2_3 l2_3.length c2_3, .slice A2_4 l2_4.length c2_4]) ?_ 3 _ rfl; (with_reducible repeat (first | refine blk_drewN ?_ _ | refine blk_drew ?_ | refine blk_alloc ?_ _)); refine blk_put (cs := #[.string t727, .string t728, .string a2_2, .slice A2_3 l2_3.length c2_3, .slice A2_4 l2_4.length c2_4]) ?_ 2 _ rfl; (with_reducible repeat (first | refine blk_drewN ?_ _ | refine blk_drew ?_ | refine blk_alloc ?_ _)); refine blk_put (cs := #[.string t727, .string a2_1, .string a2_2, .slice A2_3 l2_3.length c2_3, .slice A2_4 l2_4.length c2_4]) ?_ 1 _ rfl; (with_reducible repeat (first | refine blk_drewN ?_ _ | refine blk_drew ?_ | refine blk_alloc ?_ _)); refine blk_put (cs := #[.string a2_0, .string a2_1, .string a2_2, .slice A2_3 l2_3.length c2_3, .slice A2_4 l2_4.length c2_4]) ?_ 0 _ rfl; (with_reducible repeat (first | refine blk_drewN ?_ _ | refine blk_drew ?_ | refine blk_alloc ?_ _)); refine blk_far ?_ NB717_716.out _; (with_reducible repeat (first | refine blk_drewN ?_ _ | refine blk_drew ?_ | refine blk_alloc ?_ _)); refine blk_far ?_ NB717_716.out _; (with_reducible repeat (first | refine blk_drewN ?_ _ | refine blk_drew ?_ | refine blk_alloc ?_ _)); refine blk_far ?_ NB717_715.out _; (with_reducible repeat (first | refine blk_drewN ?_ _ | refine blk_drew ?_ | refine blk_alloc ?_ _)); refine blk_far ?_ NB717_715.out _; (with_reducible repeat (first | refine blk_drewN ?_ _ | refine blk_drew ?_ | refine blk_alloc ?_ _)); refine blk_far ?_ NB717_715.out _; (with_reducible repeat (first | refine blk_drewN ?_ _ | refine blk_drew ?_ | refine blk_alloc ?_ _)); refine blk_far ?_ NB717_715.out _; (with_reducible repeat (first | refine blk_drewN ?_ _ | refine blk_drew ?_ | refine blk_alloc ?_ _)); refine blk_far ?_ NB717_715.out _; (with_reducible repeat (first | refine blk_drewN ?_ _ | refine blk_drew ?_ | refine blk_alloc ?_ _)); refine blk_far ?_ NB717_715.out _; (with_reducible repeat (first | refine blk_drewN ?_ _ | refine blk_drew ?_ | refine blk_alloc ?_ _)); refine blk_far ?_ NB717_715.out _; (with_reducible repeat (first | refine blk_drewN ?_ _ | refine blk_drew ?_ | refine blk_alloc ?_ _)); refine blk_far ?_ NB717_715.out _; (with_reducible repeat (first | refine blk_drewN ?_ _ | refine blk_drew ?_ | refine blk_alloc ?_ _)); exact BK717.out⟩, ⟨bel_ HB.out⟩⟩
  ·rw [if_neg c9] at H
   exact absurd H (by simp)
 case rest =>
  clear HC4
  try clear c1
  try clear c2
  try clear p2
  try clear p7
  try clear q7
  try clear hx7
  try clear qi7
  try clear c8
  try clear c9
  try clear c9b0
  try clear c9b1
  try clear c9b2
  try clear c16
  try clear c27
  try clear hx724_0
  try clear hx724_1
  try clear hx724_2
  try clear hx724_3
  try clear hx724_4
  try clear hx724_5
  try clear hx724_6
  try clear hx724_7
  try clear p724
  try clear q724
  obtain ⟨kq, x716000_3, x716001_3, x716002_3, x716003_3, x716004_3, x716005_3, x716006_3, x716007_3, x717000_3, x717001_3, x718000_3, x718001_3, x718002_3, x718003_3, x718004_3, u718003, u718004, HA, HJ3, HO_718003, HO_718004, BK715, BK716, BK717, HB⟩ := hcut
  cases kq with
  | zero => exact absurd HA.out (by simp [tolllaw07_FilterPaths.j0])
  | succ kj3 =>
   have H := HA.out
   clear HA
   simp only [tolllaw07_FilterPaths.j0] at H
   by_cases c37 : x716000_3 = 5
   ·rw [if_pos c37] at H
    have c37b0 : (x716000_3 == 5) = true := beq_iff_eq.mpr c37
    have c37b1 : (x716000_3 != 5) = false := bne_eq_false_iff_eq.mpr c37
    clear c37
    obtain ⟨y737, hy737⟩ : ∃ y_ : List (S26), y_ = (([(⟨x716000_3, x716001_3, x716002_3, x716003_3, x716004_3, x716005_3, x716006_3, x716007_3⟩ : S26)] : List (S26))) := ⟨_, rfl⟩
    replace H : ((filter_Do.f kj3 y737 x717000_3 x717001_3 x718000_3 x718001_3 x718002_3 x718003_3 x718004_3).bind fun bt740 => (if bt740.2.2.2.2.2 = 0 then (if x716003_3.toList = ([] : List UInt8) then (tolllaw07_FilterPaths.j1 kj3 x718001_3 x716000_3 x716001_3 x716002_3 x716003_3 x716004_3 x716005_3 x716006_3 x716007_3 x717000_3 x717001_3 x718000_3 x718001_3 x718002_3 x718003_3 x718004_3 bt740.1 bt740.2.1 bt740.2.2.1 bt740.2.2.2.1 bt740.2.2.2.2.1) else (tolllaw07_FilterPaths.j1 kj3 x716003_3 x716000_3 x716001_3 x716002_3 x716003_3 x716004_3 x716005_3 x716006_3 x716007_3 x717000_3 x717001_3 x718000_3 x718001_3 x718002_3 x718003_3 x718004_3 bt740.1 bt740.2.1 bt740.2.2.1 bt740.2.2.2.1 bt740.2.2.2.2.1)) else (if bt740.2.2.1.toList = ([] : List UInt8) then ((tolllaw07_awake.f kj3).bind fun t751 => (some t751)) else (none)))) = some r := by first | (rw [hy737]; with_reducible exact H) | (have H2_ := (Option.bind_some _ _).symm.trans H; rw [hy737]; with_reducible exact H2_) | (have H2_ := (Option.bind_some _ _).symm.trans H; with_reducible exact H2_) | with_reducible exact H | (rw [hy737]; exact H) | exact H
    have Ny737 := Aside0.mk hy737
    clear hy737
    replace H := Option.bind_eq_some_iff.mp H
    obtain ⟨⟨t740, t741, t742, t743, t746, t749⟩, A380, H⟩ := H
    replace H : (if t749 = 0 then (if x716003_3.toList = ([] : List UInt8) then (tolllaw07_FilterPaths.j1 kj3 x718001_3 x716000_3 x716001_3 x716002_3 x716003_3 x716004_3 x716005_3 x716006_3 x716007_3 x717000_3 x717001_3 x718000_3 x718001_3 x718002_3 x718003_3 x718004_3 t740 t741 t742 t743 t746) else (tolllaw07_FilterPaths.j1 kj3 x716003_3 x716000_3 x716001_3 x716002_3 x716003_3 x716004_3 x716005_3 x716006_3 x716007_3 x717000_3 x717001_3 x718000_3 x718001_3 x718002_3 x718003_3 x718004_3 t740 t741 t742 t743 t746)) else (if t742.toList = ([] : List UInt8) then ((tolllaw07_awake.f kj3).bind fun t751 => (some t751)) else (none))) = some r := H
    have A38 := Aside0.mk A380
    clear A380
    by_cases c39 : t749 = 0
    ·rw [if_pos c39] at H
     have c39b0 : (t749 == 0) = true := beq_iff_eq.mpr c39
     have c39b1 : (t749 != 0) = false := bne_eq_false_iff_eq.mpr c39
     clear c39
     have HC40 := Aside0.mk H
     clear H
     have hnb41 := NB715_716.out
     have hnc41 := NB716_715.out
     have hnb42 := NB715_717.out
     have hnc42 := NB717_715.out
     obtain ⟨hcz43_0, hcz43_1, hcz43_2, hcz43_3, hcz43_4, hcz43_5, hcz43_6, hcz43_7, hfz43_0, hfz43_1, hfz43_2, hfz43_3, hfz43_4, hfz43_5, hfz43_6, hfz43_7⟩ := blk8 BK715.out
     go_upto_if 43 with (first | ((with_reducible refine gate_dst (N := 25) rfl ?_); (try (refine gate_guard (by rfl) ?_; dsimp only)); refine Kd.R_lit k26 _ 26 ?hg (N := 25) ?hd (xs := ([(⟨x716000_3, x716001_3, x716002_3, x716003_3, x716004_3, x716005_3, x716006_3, x716007_3⟩ : S26)] : List (S26))) (inner := [.int .i64 x716000_3, .string x716001_3, .string x716002_3, .string x716003_3, .int .i64 x716004_3, .string x716005_3, .bool x716006_3, .int .i64 x716007_3]) (ok := fun _ => True) (okp := fun _ => True) ?hr ?hp (fun _ hk => hk) trivial (Below.refl _ _) (Nat.le_refl _) (by simp) ?_; (case hd => rfl); (case hg => rfl); (case hr => first | (go_simp; done) | (go_simp; rfl)); (case hp => exact (Reps.c8 (show Kd.M k26 _ _ _ (⟨x716000_3, x716001_3, x716002_3, x716003_3, x716004_3, x716005_3, x716006_3, x716007_3⟩ : S26) [.int .i64 x716000_3, .string x716001_3, .string x716002_3, .string x716003_3, .int .i64 x716004_3, .string x716005_3, .bool x716006_3, .int .i64 x716007_3] from (k26_mkM _ _ _ (⟨x716000_3, x716001_3, x716002_3, x716003_3, x716004_3, x716005_3, x716006_3, x716007_3⟩ : S26) )) (Reps.none _ _))); intro v738 w44 ho45 hb hg_ hnew_; clear hg_ hnew_; (first | rw [← Ny737.out] at ho45 | (simp only [Int.reduceToNat] at ho45; rw [← Ny737.out] at ho45)); have n0_ := am_ (Kd.R_below (R_ HO_718003.out) hb); have n1_ := am_ (Kd.R_below (R_ HO_718004.out) hb); have n2_ := am_ (Kd.R_lower (Kd.R_newB ho45 (g := gb715) (o := .cells #[.int .i64 x716000_3, .string x716001_3, .string x716002_3, .string x716003_3, .int .i64 x716004_3, .string x716005_3, .bool x716006_3, .int .i64 x716007_3] 26 (0, 0)) (blk_ BK715.out)) (below_size (bel_ HB.out))); have n3_ := am_ (blk_below (g := gb715) (o := .cells #[.int .i64 x716000_3, .string x716001_3, .string x716002_3, .string x716003_3, .int .i64 x716004_3, .string x716005_3, .bool x716006_3, .int .i64 x716007_3] 26 (0, 0)) (blk_ BK715.out) hb); have n4_ := am_ (blk_below (g := gb716) (o := .cells #[.int .i64 x717000_3, .string x717001_3] 30 (0, 0)) (blk_ BK716.out) hb); have n5_ := am_ (blk_below (g := gb717) (o := .cells #[.string x718000_3, .string x718001_3, .string x718002_3, u718003, u718004] 33 (0, 0)) (blk_ BK717.out) hb); have n6_ := am_ (below_step (bel_ HB.out) hb); clear HO_718003 HO_718004 BK715 BK716 BK717 HB; have HO_718003 := n0_; have HO_718004 := n1_; have HO739 := n2_; have BK715 := n3_; have BK716 := n4_; have BK717 := n5_; have HB := n6_; clear n0_ n1_ n2_ n3_ n4_ n5_ n6_ hb ho45; have hnb46 := NB716_717.out; have hnc46 := NB717_716.out; obtain ⟨hcz47_0, hcz47_1, hfz47_0, hfz47_1⟩ := blk2 BK716.out; obtain ⟨hcz48_0, hcz48_1, hcz48_2, hcz48_3, hcz48_4, hfz48_0, hfz48_1, hfz48_2, hfz48_3, hfz48_4⟩ := blk5 BK717.out; obtain ⟨Ao49, co49, eo49⟩ := Kd.R_slice HO739.out; subst eo49; obtain ⟨Ao50, co50, eo50⟩ := Kd.R_slice HO_718003.out; subst eo50; obtain ⟨Ao51, co51, eo51⟩ := Kd.R_slice HO_718004.out; subst eo51) | ((with_reducible refine gate_callee (f := 17) rfl ?_); refine goesL_ (some 28) rfl rfl Tryz.func17 kr_ rfl #[.slice Ao49 y737.length co49, .agg #[.int .i64 x717000_3, .string x717001_3], .agg #[.string x718000_3, .string x718001_3, .string x718002_3, .slice Ao50 x718003_3.length co50, .slice Ao51 x718004_3.length co51]] rfl rl_ ?_; (with_reducible refine (filter_Do.calls kj3 _ _ y737 x717000_3 x717001_3 x718000_3 x718001_3 x718002_3 (fun k_ => some k_ = (.slice Ao50 x718003_3.length co50 : Value).ownBlock) _ _ x718003_3 (fun k_ => some k_ = (.slice Ao51 x718004_3.length co51 : Value).ownBlock) _ _ x718004_3 t740 t741 t742 t743 t746 t749 _ ?side1 ?side2 ?side3 ?side4 A38.out).mono ?_); (case side1 => exact C_ (Kd.R_reads' HO739.out).2.2); (case side2 => exact (Kd.R_reads' HO739.out).2.1); (case side3 => exact Kd.R_V (Kd.R_tight rfl (Kd.R_types (Kd.R_types (Kd.R_types (Kd.R_apart' (HO_718003.out) (Kd.R_typed HO739.out) (by decide)) BK715.out (by decide)) BK716.out (by decide)) BK717.out (by decide)))); (case side4 => exact Kd.R_V (Kd.R_tight rfl (Kd.R_types (Kd.R_types (Kd.R_types (Kd.R_apart' (HO_718004.out) (Kd.R_typed HO739.out) (by decide)) BK715.out (by decide)) BK716.out (by decide)) BK717.out (by decide)))); rintro e w52 ⟨v744, v747, rfl, ho0, ho1, hb⟩; refine ⟨_, rfl, ?_⟩; have n0_ := am_ (Kd.R_below (R_ HO_718003.out) hb); have n1_ := am_ (Kd.R_below (R_ HO_718004.out) hb); have n2_ := am_ (Kd.R_below (R_ HO739.out) hb); have n3_ := am_ (Kd.V_lower (Kd.V_mono (ok' := fun k_ => some k_ ≠ (.slice Ao49 y737.length co49 : Value).ownBlock ∧ k_ ≠ gb715 ∧ k_ ≠ gb716 ∧ k_ ≠ gb717) ho0 (fun k_ hk_ => ⟨Or.elim hk_ (fun hs_ => Or.elim hs_ (fun hs_ => ((Kd.R_types (Kd.R_types (Kd.R_types (Kd.R_apart' (HO_718003.out) (Kd.R_typed HO739.out) (by decide)) BK715.out (by decide)) BK716.out (by decide)) BK717.out (by decide)).1 k_ hs_.symm).1.1.1.2) (fun hs_ => ((Kd.R_types (Kd.R_types (Kd.R_types (Kd.R_apart' (HO_718004.out) (Kd.R_typed HO739.out) (by decide)) BK715.out (by decide)) BK716.out (by decide)) BK717.out (by decide)).1 k_ hs_.symm).1.1.1.2)) (fun hn_ => (Kd.fresh' (Kd.R_lt (R_ HO739.out)) k_ hn_)), Or.elim hk_ (fun hs_ => Or.elim hs_ (fun hs_ => ((Kd.R_types (Kd.R_types (Kd.R_types (Kd.R_apart' (HO_718003.out) (Kd.R_typed HO739.out) (by decide)) BK715.out (by decide)) BK716.out (by decide)) BK717.out (by decide)).1 k_ hs_.symm).1.1.2) (fun hs_ => ((Kd.R_types (Kd.R_types (Kd.R_types (Kd.R_apart' (HO_718004.out) (Kd.R_typed HO739.out) (by decide)) BK715.out (by decide)) BK716.out (by decide)) BK717.out (by decide)).1 k_ hs_.symm).1.1.2)) (fun hn_ => (Kd.freshB (g := gb715) (o := .cells #[.int .i64 x716000_3, .string x716001_3, .string x716002_3, .string x716003_3, .int .i64 x716004_3, .string x716005_3, .bool x716006_3, .int .i64 x716007_3] 26 (0, 0)) (blk_ BK715.out) k_ hn_)), Or.elim hk_ (fun hs_ => Or.elim hs_ (fun hs_ => ((Kd.R_types (Kd.R_types (Kd.R_types (Kd.R_apart' (HO_718003.out) (Kd.R_typed HO739.out) (by decide)) BK715.out (by decide)) BK716.out (by decide)) BK717.out (by decide)).1 k_ hs_.symm).1.2) (fun hs_ => ((Kd.R_types (Kd.R_types (Kd.R_types (Kd.R_apart' (HO_718004.out) (Kd.R_typed HO739.out) (by decide)) BK715.out (by decide)) BK716.out (by decide)) BK717.out (by decide)).1 k_ hs_.symm).1.2)) (fun hn_ => (Kd.freshB (g := gb716) (o := .cells #[.int .i64 x717000_3, .string x717001_3] 30 (0, 0)) (blk_ BK716.out) k_ hn_)), Or.elim hk_ (fun hs_ => Or.elim hs_ (fun hs_ => ((Kd.R_types (Kd.R_types (Kd.R_types (Kd.R_apart' (HO_718003.out) (Kd.R_typed HO739.out) (by decide)) BK715.out (by decide)) BK716.out (by decide)) BK717.out (by decide)).1 k_ hs_.symm).2) (fun hs_ => ((Kd.R_types (Kd.R_types (Kd.R_types (Kd.R_apart' (HO_718004.out) (Kd.R_typed HO739.out) (by decide)) BK715.out (by decide)) BK716.out (by decide)) BK717.out (by decide)).1 k_ hs_.symm).2)) (fun hn_ => (Kd.freshB (g := gb717) (o := .cells #[.string x718000_3, .string x718001_3, .string x718002_3, .slice Ao50 x718003_3.length co50, .slice Ao51 x718004_3.length co51] 33 (0, 0)) (blk_ BK717.out) k_ hn_))⟩)) (below_size (bel_ HB.out))); have n4_ := am_ (Kd.V_lower (Kd.V_mono (ok' := fun k_ => some k_ ≠ (.slice Ao49 y737.length co49 : Value).ownBlock ∧ k_ ≠ gb715 ∧ k_ ≠ gb716 ∧ k_ ≠ gb717) ho1 (fun k_ hk_ => ⟨Or.elim hk_ (fun hs_ => Or.elim hs_ (fun hs_ => ((Kd.R_types (Kd.R_types (Kd.R_types (Kd.R_apart' (HO_718003.out) (Kd.R_typed HO739.out) (by decide)) BK715.out (by decide)) BK716.out (by decide)) BK717.out (by decide)).1 k_ hs_.symm).1.1.1.2) (fun hs_ => ((Kd.R_types (Kd.R_types (Kd.R_types (Kd.R_apart' (HO_718004.out) (Kd.R_typed HO739.out) (by decide)) BK715.out (by decide)) BK716.out (by decide)) BK717.out (by decide)).1 k_ hs_.symm).1.1.1.2)) (fun hn_ => (Kd.fresh' (Kd.R_lt (R_ HO739.out)) k_ hn_)), Or.elim hk_ (fun hs_ => Or.elim hs_ (fun hs_ => ((Kd.R_types (Kd.R_types (Kd.R_types (Kd.R_apart' (HO_718003.out) (Kd.R_typed HO739.out) (by decide)) BK715.out (by decide)) BK716.out (by decide)) BK717.out (by decide)).1 k_ hs_.symm).1.1.2) (fun hs_ => ((Kd.R_types (Kd.R_types (Kd.R_types (Kd.R_apart' (HO_718004.out) (Kd.R_typed HO739.out) (by decide)) BK715.out (by decide)) BK716.out (by decide)) BK717.out (by decide)).1 k_ hs_.symm).1.1.2)) (fun hn_ => (Kd.freshB (g := gb715) (o := .cells #[.int .i64 x716000_3, .string x716001_3, .string x716002_3, .string x716003_3, .int .i64 x716004_3, .string x716005_3, .bool x716006_3, .int .i64 x716007_3] 26 (0, 0)) (blk_ BK715.out) k_ hn_)), Or.elim hk_ (fun hs_ => Or.elim hs_ (fun hs_ => ((Kd.R_types (Kd.R_types (Kd.R_types (Kd.R_apart' (HO_718003.out) (Kd.R_typed HO739.out) (by decide)) BK715.out (by decide)) BK716.out (by decide)) BK717.out (by decide)).1 k_ hs_.symm).1.2) (fun hs_ => ((Kd.R_types (Kd.R_types (Kd.R_types (Kd.R_apart' (HO_718004.out) (Kd.R_typed HO739.out) (by decide)) BK715.out (by decide)) BK716.out (by decide)) BK717.out (by decide)).1 k_ hs_.symm).1.2)) (fun hn_ => (Kd.freshB (g := gb716) (o := .cells #[.int .i64 x717000_3, .string x717001_3] 30 (0, 0)) (blk_ BK716.out) k_ hn_)), Or.elim hk_ (fun hs_ => Or.elim hs_ (fun hs_ => ((Kd.R_types (Kd.R_types (Kd.R_types (Kd.R_apart' (HO_718003.out) (Kd.R_typed HO739.out) (by decide)) BK715.out (by decide)) BK716.out (by decide)) BK717.out (by decide)).1 k_ hs_.symm).2) (fun hs_ => ((Kd.R_types (Kd.R_types (Kd.R_types (Kd.R_apart' (HO_718004.out) (Kd.R_typed HO739.out) (by decide)) BK715.out (by decide)) BK716.out (by decide)) BK717.out (by decide)).1 k_ hs_.symm).2)) (fun hn_ => (Kd.freshB (g := gb717) (o := .cells #[.string x718000_3, .string x718001_3, .string x718002_3, .slice Ao50 x718003_3.length co50, .slice Ao51 x718004_3.length co51] 33 (0, 0)) (blk_ BK717.out) k_ hn_))⟩)) (below_size (bel_ HB.out))); have n5_ := am_ (blk_below (g := gb715) (o := .cells #[.int .i64 x716000_3, .string x716001_3, .string x716002_3, .string x716003_3, .int .i64 x716004_3, .string x716005_3, .bool x716006_3, .int .i64 x716007_3] 26 (0, 0)) (blk_ BK715.out) hb); have n6_ := am_ (blk_below (g := gb716) (o := .cells #[.int .i64 x717000_3, .string x717001_3] 30 (0, 0)) (blk_ BK716.out) hb); have n7_ := am_ (blk_below (g := gb717) (o := .cells #[.string x718000_3, .string x718001_3, .string x718002_3, .slice Ao50 x718003_3.length co50, .slice Ao51 x718004_3.length co51] 33 (0, 0)) (blk_ BK717.out) hb); have n8_ := am_ (below_step (bel_ HB.out) hb); clear HO_718003 HO_718004 HO739 BK715 BK716 BK717 HB; have HO_718003 := n0_; have HO_718004 := n1_; have HO739 := n2_; have HO745 := n3_; have HO748 := n4_; have BK715 := n5_; have BK716 := n6_; have BK717 := n7_; have HB := n8_; clear n0_ n1_ n2_ n3_ n4_ n5_ n6_ n7_ n8_; (try clear hb); (try clear hb2); (try clear hk); (try clear hi); (try clear ho0); (try clear ho1)) | ((with_reducible refine gate_dst (N := 7) rfl ?_); (try (refine gate_guard (by rfl) ?_; dsimp only)); refine box_event ?hg (N := 7) ?hd (cs := #[.string (⟨#[]⟩ : ByteArray), .string (⟨#[]⟩ : ByteArray), .string (⟨#[]⟩ : ByteArray), .slice none 0 0, .slice none 0 0]) (t := 33) ?hr ?_; (case hd => rfl); (case hg => rfl); (case hr => first | (go_simp; done) | (go_simp; rfl)); intro gb750 hg w53 hbox hb; have n0_ := am_ (Kd.R_below (R_ HO_718003.out) hb); have n1_ := am_ (Kd.R_below (R_ HO_718004.out) hb); have n2_ := am_ (Kd.R_below (R_ HO739.out) hb); have n3_ := am_ (Kd.V_below (Kd.V_elderB (by (with_reducible repeat (first | apply Kd.V_alloc | apply Kd.V_drewN | apply Kd.V_drew)); exact HO745.out) gb750 (Nat.le_of_eq hg.symm)) hb); have n4_ := am_ (Kd.V_below (Kd.V_elderB (by (with_reducible repeat (first | apply Kd.V_alloc | apply Kd.V_drewN | apply Kd.V_drew)); exact HO748.out) gb750 (Nat.le_of_eq hg.symm)) hb); have n5_ := am_ (blk_below (g := gb715) (o := .cells #[.int .i64 x716000_3, .string x716001_3, .string x716002_3, .string x716003_3, .int .i64 x716004_3, .string x716005_3, .bool x716006_3, .int .i64 x716007_3] 26 (0, 0)) (blk_ BK715.out) hb); have n6_ := am_ (blk_below (g := gb716) (o := .cells #[.int .i64 x717000_3, .string x717001_3] 30 (0, 0)) (blk_ BK716.out) hb); have n7_ := am_ (blk_below (g := gb717) (o := .cells #[.string x718000_3, .string x718001_3, .string x718002_3, .slice Ao50 x718003_3.length co50, .slice Ao51 x718004_3.length co51] 33 (0, 0)) (blk_ BK717.out) hb); have n8_ := am_ (below_step (bel_ HB.out) hb); have n9_ := am_ (hbox); have n10_ := am_ ((by rw [hg]; exact (below_size (bel_ HB.out)) : w.heap.size ≤ gb750)); have n11_ := am_ ((by rw [hg]; exact (below_size (bel_ HB.out)) : w.heap.size ≤ gb750)); have n12_ := am_ ((by rw [hg]; exact Nat.ne_of_lt (blk_lt (g := gb715) (o := .cells #[.int .i64 x716000_3, .string x716001_3, .string x716002_3, .string x716003_3, .int .i64 x716004_3, .string x716005_3, .bool x716006_3, .int .i64 x716007_3] 26 (0, 0)) (blk_ BK715.out)) : gb715 ≠ gb750)); have n13_ := am_ ((by rw [hg]; exact Nat.ne_of_gt (blk_lt (g := gb715) (o := .cells #[.int .i64 x716000_3, .string x716001_3, .string x716002_3, .string x716003_3, .int .i64 x716004_3, .string x716005_3, .bool x716006_3, .int .i64 x716007_3] 26 (0, 0)) (blk_ BK715.out)) : gb750 ≠ gb715)); have n14_ := am_ ((by rw [hg]; exact Nat.ne_of_lt (blk_lt (g := gb716) (o := .cells #[.int .i64 x717000_3, .string x717001_3] 30 (0, 0)) (blk_ BK716.out)) : gb716 ≠ gb750)); have n15_ := am_ ((by rw [hg]; exact Nat.ne_of_gt (blk_lt (g := gb716) (o := .cells #[.int .i64 x717000_3, .string x717001_3] 30 (0, 0)) (blk_ BK716.out)) : gb750 ≠ gb716)); have n16_ := am_ ((by rw [hg]; exact Nat.ne_of_lt (blk_lt (g := gb717) (o := .cells #[.string x718000_3, .string x718001_3, .string x718002_3, .slice Ao50 x718003_3.length co50, .slice Ao51 x718004_3.length co51] 33 (0, 0)) (blk_ BK717.out)) : gb717 ≠ gb750)); have n17_ := am_ ((by rw [hg]; exact Nat.ne_of_gt (blk_lt (g := gb717) (o := .cells #[.string x718000_3, .string x718001_3, .string x718002_3, .slice Ao50 x718003_3.length co50, .slice Ao51 x718004_3.length co51] 33 (0, 0)) (blk_ BK717.out)) : gb750 ≠ gb717)); clear HO_718003 HO_718004 HO739 HO745 HO748 BK715 BK716 BK717 HB; have HO_718003 := n0_; have HO_718004 := n1_; have HO739 := n2_; have HO745 := n3_; have HO748 := n4_; have BK715 := n5_; have BK716 := n6_; have BK717 := n7_; have HB := n8_; have BK750 := n9_; have GW750 := n10_; have GE750 := n11_; have NB715_750 := n12_; have NB750_715 := n13_; have NB716_750 := n14_; have NB750_716 := n15_; have NB717_750 := n16_; have NB750_717 := n17_; clear n0_ n1_ n2_ n3_ n4_ n5_ n6_ n7_ n8_ n9_ n10_ n11_ n12_ n13_ n14_ n15_ n16_ n17_ hb hbox hg; have hnb54 := NB750_715.out; have hnc54 := NB715_750.out; have hnb55 := NB750_716.out; have hnc55 := NB716_750.out; have hnb56 := NB750_717.out; have hnc56 := NB717_750.out; obtain ⟨hcz57_0, hcz57_1, hcz57_2, hcz57_3, hcz57_4, hfz57_0, hfz57_1, hfz57_2, hfz57_3, hfz57_4⟩ := blk5 BK750.out; obtain ⟨Ao58, co58, eo58⟩ := Kd.V_slice HO745.out; subst eo58; obtain ⟨Ao59, co59, eo59⟩ := Kd.V_slice HO748.out; subst eo59; obtain ⟨hcz60_0, hcz60_1, hcz60_2, hcz60_3, hcz60_4, hfz60_0, hfz60_1, hfz60_2, hfz60_3, hfz60_4⟩ := blk5 BK717.out; obtain ⟨hcz61_0, hcz61_1, hcz61_2, hcz61_3, hcz61_4, hcz61_5, hcz61_6, hcz61_7, hfz61_0, hfz61_1, hfz61_2, hfz61_3, hfz61_4, hfz61_5, hfz61_6, hfz61_7⟩ := blk8 BK715.out))
     (try simp only [Act.put, List.setIfInBounds_toArray, List.set_cons_zero, List.set_cons_succ])
     go_cut [9] (fun v9 wc => ∃ (kq : Nat) (x9_39 : ByteArray), v9 = .string x9_39 ∧ Aside0 (tolllaw07_FilterPaths.j1 kq x9_39 x716000_3 x716001_3 x716002_3 x716003_3 x716004_3 x716005_3 x716006_3 x716007_3 x717000_3 x717001_3 x718000_3 x718001_3 x718002_3 x718003_3 x718004_3 t740 t741 t742 t743 t746 = some r) ∧ Aside0 (kq ≤ kj3) ∧ Aside0 (Kd.R k59 59 wc w.heap.size (fun k_ => some k_ ≠ ((.slice Ao51 x718004_3.length co51) : Value).ownBlock) (.slice Ao50 x718003_3.length co50) x718003_3) ∧ Aside0 (Kd.R k59 59 wc w.heap.size (fun k_ => some k_ ≠ ((.slice Ao50 x718003_3.length co50) : Value).ownBlock) (.slice Ao51 x718004_3.length co51) x718004_3) ∧ Aside0 (Kd.V k59 59 wc w.heap.size (fun k_ => k_ ≠ gb715 ∧ k_ ≠ gb716 ∧ k_ ≠ gb717 ∧ k_ ≠ gb750) (.slice Ao58 t743.length co58) t743) ∧ Aside0 (Kd.V k59 59 wc w.heap.size (fun k_ => k_ ≠ gb715 ∧ k_ ≠ gb716 ∧ k_ ≠ gb717 ∧ k_ ≠ gb750) (.slice Ao59 t746.length co59) t746) ∧ Aside0 (wc.heap[gb715]? = some (.cells #[.int .i64 x716000_3, .string x716001_3, .string x716002_3, .string x716003_3, .int .i64 x716004_3, .string x716005_3, .bool x716006_3, .int .i64 x716007_3] 26 (0, 0))) ∧ Aside0 (wc.heap[gb716]? = some (.cells #[.int .i64 x717000_3, .string x717001_3] 30 (0, 0))) ∧ Aside0 (wc.heap[gb717]? = some (.cells #[.string x718000_3, .string x718001_3, .string x718002_3, (.slice Ao50 x718003_3.length co50), (.slice Ao51 x718004_3.length co51)] 33 (0, 0))) ∧ Aside0 (wc.heap[gb750]? = some (.cells #[.string t740, .string t741, .string t742, (.slice Ao58 t743.length co58), (.slice Ao59 t746.length co59)] 33 (0, 0))) ∧ Aside0 (Below w.heap.size w wc))
     case first =>
      have H := HC40.out
      clear HC40
      by_cases c62 : x716003_3.toList = ([] : List UInt8)
      ·rw [if_pos c62] at H
       have c62b2 : x716003_3.toList.isEmpty = true := List.isEmpty_iff.2 c62
       have c62b0 : (x716003_3.toList == ([] : List UInt8)) = true := beq_iff_eq.mpr c62
       have c62b1 : (x716003_3.toList != ([] : List UInt8)) = false := bne_eq_false_iff_eq.mpr c62
       clear c62
       (first | rw [c62b0] | rw [c62b1] | rw [c62b2] | (simp only [i64_w, i32_w]; rw [c62b0]) | skip)
       have H' := Aside0.mk H
       clear H
       go_wp2
       go_meet
       case rel => exact ⟨_, (x718001_3), sd_, H', ⟨by have := HJ3.out; first | omega | exact Nat.le_refl _⟩, ⟨by (with_reducible repeat (first | apply Kd.R_alloc | apply Kd.R_drewN | apply Kd.R_drew)); exact Kd.R_mono (Kd.R_far (p := ⟨gb750, 4, none⟩) (Kd.R_far (p := ⟨gb750, 3, none⟩) (Kd.R_far (p := ⟨gb750, 2, none⟩) (Kd.R_far (p := ⟨gb750, 1, none⟩) (Kd.R_far (p := ⟨gb750, 0, none⟩) (Kd.R_types HO_718003.out BK750.out (by decide)) (fun _ hk => hk.2) (.string t740)) (fun _ hk => hk.2) (.string t741)) (fun _ hk => hk.2) (.string t742)) (fun _ hk => hk.2) (.slice Ao58 t743.length co58)) (fun _ hk => hk.2) (.slice Ao59 t746.length co59)) (fun _ hk => hk.1)⟩, ⟨by (with_reducible repeat (first | apply Kd.R_alloc | apply Kd.R_drewN | apply Kd.R_drew)); exact Kd.R_mono (Kd.R_far (p := ⟨gb750, 4, none⟩) (Kd.R_far (p := ⟨gb750, 3, none⟩) (Kd.R_far (p := ⟨gb750, 2, none⟩) (Kd.R_far (p := ⟨gb750, 1, none⟩) (Kd.R_far (p := ⟨gb750, 0, none⟩) (Kd.R_types HO_718004.out BK750.out (by decide)) (fun _ hk => hk.2) (.string t740)) (fun _ hk => hk.2) (.string t741)) (fun _ hk => hk.2) (.string t742)) (fun _ hk => hk.2) (.slice Ao58 t743.length co58)) (fun _ hk => hk.2) (.slice Ao59 t746.length co59)) (fun _ hk => hk.1)⟩, ⟨by (with_reducible repeat (first | apply Kd.V_alloc | apply Kd.V_drewN | apply Kd.V_drew)); exact Kd.V_mono (Kd.V_far (p := ⟨gb750, 4, none⟩) (Kd.V_far (p := ⟨gb750, 3, none⟩) (Kd.V_far (p := ⟨gb750, 2, none⟩) (Kd.V_far (p := ⟨gb750, 1, none⟩) (Kd.V_far (p := ⟨gb750, 0, none⟩) (Kd.V_mono HO745.out (fun k_ hk => (⟨hk, hk.2⟩ : _ ∧ k_ ≠ gb750))) (fun _ hk => hk.2) (.string t740)) (fun _ hk => hk.2) (.string t741)) (fun _ hk => hk.2) (.string t742)) (fun _ hk => hk.2) (.slice Ao58 t743.length co58)) (fun _ hk => hk.2) (.slice Ao59 t746.length co59)) (fun _ hk => ⟨hk.1.1.2.1, ⟨hk.1.1.2.2.1, ⟨hk.1.1.2.2.2, hk.1.2⟩⟩⟩)⟩, ⟨by (with_reducible repeat (first | apply Kd.V_alloc | apply Kd.V_drewN | apply Kd.V_drew)); exact Kd.V_mono (Kd.V_far (p := ⟨gb750, 4, none⟩) (Kd.V_far (p := ⟨gb750, 3, none⟩) (Kd.V_far (p := ⟨gb750, 2, none⟩) (Kd.V_far (p := ⟨gb750, 1, none⟩) (Kd.V_far (p := ⟨gb750, 0, none⟩) (Kd.V_mono HO748.out (fun k_ hk => (⟨hk, hk.2⟩ : _ ∧ k_ ≠ gb750))) (fun _ hk => hk.2) (.string t740)) (fun _ hk => hk.2) (.string t741)) (fun _ hk => hk.2) (.string t742)) (fun _ hk => hk.2) (.slice Ao58 t743.length co58)) (fun _ hk => hk.2) (.slice Ao59 t746.length co59)) (fun _ hk => ⟨hk.1.1.2.1, ⟨hk.1.1.2.2.1, ⟨hk.1.1.2.2.2, hk.1.2⟩⟩⟩)⟩, ⟨by (with_reducible repeat (first | refine blk_drewN ?_ _ | refine blk_drew ?_ | refine blk_alloc ?_ _)); refine blk_far ?_ NB715_750.out _; (with_reducible repeat (first | refine blk_drewN ?_ _ | refine blk_drew ?_ | refine blk_alloc ?_ _)); refine blk_far ?_ NB715_750.out _; (with_reducible repeat (first | refine blk_drewN ?_ _ | refine blk_drew ?_ | refine blk_alloc ?_ _)); refine blk_far ?_ NB715_750.out _; (with_reducible repeat (first | refine blk_drewN ?_ _ | refine blk_drew ?_ | refine blk_alloc ?_ _)); refine blk_far ?_ NB715_750.out _; (with_reducible repeat (first | refine blk_drewN ?_ _ | refine blk_drew ?_ | refine blk_alloc ?_ _)); refine blk_far ?_ NB715_750.out _; (with_reducible repeat (first | refine blk_drewN ?_ _ | refine blk_drew ?_ | refine blk_alloc ?_ _)); exact BK715.out⟩, ⟨by (with_reducible repeat (first | refine blk_drewN ?_ _ | refine blk_drew ?_ | refine blk_alloc ?_ _)); refine blk_far ?_ NB716_750.out _; (with_reducible repeat (first | refine blk_drewN ?_ _ | refine blk_drew ?_ | refine blk_alloc ?_ _)); refine blk_far ?_ NB716_750.out _; (with_reducible repeat (first | refine blk_drewN ?_ _ | refine blk_drew ?_ | refine blk_alloc ?_ _)); refine blk_far ?_ NB716_750.out _; (with_reducible repeat (first | refine blk_drewN ?_ _ | refine blk_drew ?_ | refine blk_alloc ?_ _)); refine blk_far ?_ NB716_750.out _; (with_reducible repeat (first | refine blk_drewN ?_ _ | refine blk_drew ?_ | refine blk_alloc ?_ _)); refine blk_far ?_ NB716_750.out _; (with_reducible repeat (first | refine blk_drewN ?_ _ | refine blk_drew ?_ | refine blk_alloc ?_ _)); exact BK716.out⟩, ⟨by (with_reducible repeat (first | refine blk_drewN ?_ _ | refine blk_drew ?_ | refine blk_alloc ?_ _)); refine blk_far ?_ NB717_750.out _; (with_reducible repeat (first | refine blk_drewN ?_ _ | refine blk_drew ?_ | refine blk_alloc ?_ _)); refine blk_far ?_ NB717_750.out _; (with_reducible repeat (first | refine blk_drewN ?_ _ | refine blk_drew ?_ | refine blk_alloc ?_ _)); refine blk_far ?_ NB717_750.out _; (with_reducible repeat (first | refine blk_drewN ?_ _ | refine blk_drew ?_ | refine blk_alloc ?_ _)); refine blk_far ?_ NB717_750.out _; (with_reducible repeat (first | refine blk_drewN ?_ _ | refine blk_drew ?_ | refine blk_alloc ?_ _)); refine blk_far ?_ NB717_750.out _; (with_reducible repeat (first | refine blk_drewN ?_ _ | refine blk_drew ?_ | refine blk_alloc ?_ _)); exact BK717.out⟩, ⟨by (with_reducible repeat (first | refine blk_drewN ?_ _ | refine blk_drew ?_ | refine blk_alloc ?_ _)); refine blk_put (cs := #[.string t740, .string t741, .string t742, .slice Ao58 t743.length co58, .slice none 0 0]) ?_ 4 _ rfl; (with_reducible repeat (first | refine blk_drewN ?_ _ | refine blk_drew ?_ | refine blk_alloc ?_ _)); refine blk_put (cs := #[.string t740, .string t741, .string t742, .slice none 0 0, .slice none 0 0]) ?_ 3 _ rfl; (with_reducible repeat (first | refine blk_drewN ?_ _ | refine blk_drew ?_ | refine blk_alloc ?_ _)); refine blk_put (cs := #[.string t740, .string t741, .string (⟨#[]⟩ : ByteArray), .slice none 0 0, .slice none 0 0]) ?_ 2 _ rfl; (with_reducible repeat (first | refine blk_drewN ?_ _ | refine blk_drew ?_ | refine blk_alloc ?_ _)); refine blk_put (cs := #[.string t740, .string (⟨#[]⟩ : ByteArray), .string (⟨#[]⟩ : ByteArray), .slice none 0 0, .slice none 0 0]) ?_ 1 _ rfl; (with_reducible repeat (first | refine blk_drewN ?_ _ | refine blk_drew ?_ | refine blk_alloc ?_ _)); refine blk_put (cs := #[.string (⟨#[]⟩ : ByteArray), .string (⟨#[]⟩ : ByteArray), .string (⟨#[]⟩ : ByteArray), .slice none 0 0, .slice none 0 0]) ?_ 0 _ rfl; (with_reducible repeat (first | refine blk_drewN ?_ _ | refine blk_drew ?_ | refine blk_alloc ?_ _)); exact BK750.out⟩, ⟨bel_ HB.out⟩⟩
      ·rw [if_neg c62] at H
       have c62b2 : x716003_3.toList.isEmpty = false := by rw [List.isEmpty_eq_false_iff]; exact c62
       have c62b0 : (x716003_3.toList == ([] : List UInt8)) = false := beq_eq_false_iff_ne.mpr c62
       have c62b1 : (x716003_3.toList != ([] : List UInt8)) = true := bne_iff_ne.mpr c62
       (first | rw [c62b0] | rw [c62b1] | rw [c62b2] | (simp only [i64_w, i32_w]; rw [c62b0]) | skip)
       have H' := Aside0.mk H
       clear H
       have hnb63 := NB715_716.out
       have hnc63 := NB716_715.out
       have hnb64 := NB715_717.out
       have hnc64 := NB717_715.out
       have hnb65 := NB715_750.out
       have hnc65 := NB750_715.out
       obtain ⟨hcz66_0, hcz66_1, hcz66_2, hcz66_3, hcz66_4, hcz66_5, hcz66_6, hcz66_7, hfz66_0, hfz66_1, hfz66_2, hfz66_3, hfz66_4, hfz66_5, hfz66_6, hfz66_7⟩ := blk8 BK715.out
       go_wp2
       go_meet
       case rel => exact ⟨_, (x716003_3), sd_, H', ⟨by have := HJ3.out; first | omega | exact Nat.le_refl _⟩, ⟨by (with_reducible repeat (first | apply Kd.R_alloc | apply Kd.R_drewN | apply Kd.R_drew)); exact Kd.R_mono (Kd.R_far (p := ⟨gb750, 4, none⟩) (Kd.R_far (p := ⟨gb750, 3, none⟩) (Kd.R_far (p := ⟨gb750, 2, none⟩) (Kd.R_far (p := ⟨gb750, 1, none⟩) (Kd.R_far (p := ⟨gb750, 0, none⟩) (Kd.R_types HO_718003.out BK750.out (by decide)) (fun _ hk => hk.2) (.string t740)) (fun _ hk => hk.2) (.string t741)) (fun _ hk => hk.2) (.string t742)) (fun _ hk => hk.2) (.slice Ao58 t743.length co58)) (fun _ hk => hk.2) (.slice Ao59 t746.length co59)) (fun _ hk => hk.1)⟩, ⟨by (with_reducible repeat (first | apply Kd.R_alloc | apply Kd.R_drewN | apply Kd.R_drew)); exact Kd.R_mono (Kd.R_far (p := ⟨gb750, 4, none⟩) (Kd.R_far (p := ⟨gb750, 3, none⟩) (Kd.R_far (p := ⟨gb750, 2, none⟩) (Kd.R_far (p := ⟨gb750, 1, none⟩) (Kd.R_far (p := ⟨gb750, 0, none⟩) (Kd.R_types HO_718004.out BK750.out (by decide)) (fun _ hk => hk.2) (.string t740)) (fun _ hk => hk.2) (.string t741)) (fun _ hk => hk.2) (.string t742)) (fun _ hk => hk.2) (.slice Ao58 t743.length co58)) (fun _ hk => hk.2) (.slice Ao59 t746.length co59)) (fun _ hk => hk.1)⟩, ⟨by (with_reducible repeat (first | apply Kd.V_alloc | apply Kd.V_drewN | apply Kd.V_drew)); exact Kd.V_mono (Kd.V_far (p := ⟨gb750, 4, none⟩) (Kd.V_far (p := ⟨gb750, 3, none⟩) (Kd.V_far (p := ⟨gb750, 2, none⟩) (Kd.V_far (p := ⟨gb750, 1, none⟩) (Kd.V_far (p := ⟨gb750, 0, none⟩) (Kd.V_mono HO745.out (fun k_ hk => (⟨hk, hk.2⟩ : _ ∧ k_ ≠ gb750))) (fun _ hk => hk.2) (.string t740)) (fun _ hk => hk.2) (.string t741)) (fun _ hk => hk.2) (.string t742)) (fun _ hk => hk.2) (.slice Ao58 t743.length co58)) (fun _ hk => hk.2) (.slice Ao59 t746.length co59)) (fun _ hk => ⟨hk.1.1.2.1, ⟨hk.1.1.2.2.1, ⟨hk.1.1.2.2.2, hk.1.2⟩⟩⟩)⟩, ⟨by (with_reducible repeat (first | apply Kd.V_alloc | apply Kd.V_drewN | apply Kd.V_drew)); exact Kd.V_mono (Kd.V_far (p := ⟨gb750, 4, none⟩) (Kd.V_far (p := ⟨gb750, 3, none⟩) (Kd.V_far (p := ⟨gb750, 2, none⟩) (Kd.V_far (p := ⟨gb750, 1, none⟩) (Kd.V_far (p := ⟨gb750, 0, none⟩) (Kd.V_mono HO748.out (fun k_ hk => (⟨hk, hk.2⟩ : _ ∧ k_ ≠ gb750))) (fun _ hk => hk.2) (.string t740)) (fun _ hk => hk.2) (.string t741)) (fun _ hk => hk.2) (.string t742)) (fun _ hk => hk.2) (.slice Ao58 t743.length co58)) (fun _ hk => hk.2) (.slice Ao59 t746.length co59)) (fun _ hk => ⟨hk.1.1.2.1, ⟨hk.1.1.2.2.1, ⟨hk.1.1.2.2.2, hk.1.2⟩⟩⟩)⟩, ⟨by (with_reducible repeat (first | refine blk_drewN ?_ _ | refine blk_drew ?_ | refine blk_alloc ?_ _)); refine blk_far ?_ NB715_750.out _; (with_reducible repeat (first | refine blk_drewN ?_ _ | refine blk_drew ?_ | refine blk_alloc ?_ _)); refine blk_far ?_ NB715_750.out _; (with_reducible repeat (first | refine blk_drewN ?_ _ | refine blk_drew ?_ | refine blk_alloc ?_ _)); refine blk_far ?_ NB715_750.out _; (with_reducible repeat (first | refine blk_drewN ?_ _ | refine blk_drew ?_ | refine blk_alloc ?_ _)); refine blk_far ?_ NB715_750.out _; (with_reducible repeat (first | refine blk_drewN ?_ _ | refine blk_drew ?_ | refine blk_alloc ?_ _)); refine blk_far ?_ NB715_750.out _; (with_reducible repeat (first | refine blk_drewN ?_ _ | refine blk_drew ?_ | refine blk_alloc ?_ _)); exact BK715.out⟩, ⟨by (with_reducible repeat (first | refine blk_drewN ?_ _ | refine blk_drew ?_ | refine blk_alloc ?_ _)); refine blk_far ?_ NB716_750.out _; (with_reducible repeat (first | refine blk_drewN ?_ _ | refine blk_drew ?_ | refine blk_alloc ?_ _)); refine blk_far ?_ NB716_750.out _; (with_reducible repeat (first | refine blk_drewN ?_ _ | refine blk_drew ?_ | refine blk_alloc ?_ _)); refine blk_far ?_ NB716_750.out _; (with_reducible repeat (first | refine blk_drewN ?_ _ | refine blk_drew ?_ | refine blk_alloc ?_ _)); refine blk_far ?_ NB716_750.out _; (with_reducible repeat (first | refine blk_drewN ?_ _ | refine blk_drew ?_ | refine blk_alloc ?_ _)); refine blk_far ?_ NB716_750.out _; (with_reducible repeat (first | refine blk_drewN ?_ _ | refine blk_drew ?_ | refine blk_alloc ?_ _)); exact BK716.out⟩, ⟨by (with_reducible repeat (first | refine blk_drewN ?_ _ | refine blk_drew ?_ | refine blk_alloc ?_ _)); refine blk_far ?_ NB717_750.out _; (with_reducible repeat (first | refine blk_drewN ?_ _ | refine blk_drew ?_ | refine blk_alloc ?_ _)); refine blk_far ?_ NB717_750.out _; (with_reducible repeat (first | refine blk_drewN ?_ _ | refine blk_drew ?_ | refine blk_alloc ?_ _)); refine blk_far ?_ NB717_750.out _; (with_reducible repeat (first | refine blk_drewN ?_ _ | refine blk_drew ?_ | refine blk_alloc ?_ _)); refine blk_far ?_ NB717_750.out _; (with_reducible repeat (first | refine blk_drewN ?_ _ | refine blk_drew ?_ | refine blk_alloc ?_ _)); refine blk_far ?_ NB717_750.out _; (with_reducible repeat (first | refine blk_drewN ?_ _ | refine blk_drew ?_ | refine blk_alloc ?_ _)); exact BK717.out⟩, ⟨by (with_reducible repeat (first | refine blk_drewN ?_ _ | refine blk_drew ?_ | refine blk_alloc ?_ _)); refine blk_put (cs := #[.string t740, .string t741, .string t742, .slice Ao58 t743.length co58, .slice none 0 0]) ?_ 4 _ rfl; (with_reducible repeat (first | refine blk_drewN ?_ _ | refine blk_drew ?_ | refine blk_alloc ?_ _)); refine blk_put (cs := #[.string t740, .string t741, .string t742, .slice none 0 0, .slice none 0 0]) ?_ 3 _ rfl; (with_reducible repeat (first | refine blk_drewN ?_ _ | refine blk_drew ?_ | refine blk_alloc ?_ _)); refine blk_put (cs := #[.string t740, .string t741, .string (⟨#[]⟩ : ByteArray), .slice none 0 0, .slice none 0 0]) ?_ 2 _ rfl; (with_reducible repeat (first | refine blk_drewN ?_ _ | refine blk_drew ?_ | refine blk_alloc ?_ _)); refine blk_put (cs := #[.string t740, .string (⟨#[]⟩ : ByteArray), .string (⟨#[]⟩ : ByteArray), .slice none 0 0, .slice none 0 0]) ?_ 1 _ rfl; (with_reducible repeat (first | refine blk_drewN ?_ _ | refine blk_drew ?_ | refine blk_alloc ?_ _)); refine blk_put (cs := #[.string (⟨#[]⟩ : ByteArray), .string (⟨#[]⟩ : ByteArray), .string (⟨#[]⟩ : ByteArray), .slice none 0 0, .slice none 0 0]) ?_ 0 _ rfl; (with_reducible repeat (first | refine blk_drewN ?_ _ | refine blk_drew ?_ | refine blk_alloc ?_ _)); exact BK750.out⟩, ⟨bel_ HB.out⟩⟩
     case rest =>
      clear HC40
      try clear c1
      try clear c2
      try clear p2
      try clear c3
      try clear c4
      try clear c5
      try clear c6
      try clear p7
      try clear q7
      try clear hx7
      try clear qi7
      try clear c8
      try clear c9
      try clear c9b0
      try clear c9b1
      try clear c9b2
      try clear c16
      try clear c17
      try clear c27
      try clear c37
      try clear c37b0
      try clear c37b1
      try clear c39
      try clear c39b0
      try clear c39b1
      try clear c41
      try clear c42
      try clear c46
      try clear c54
      try clear c55
      try clear c56
      try clear c62
      try clear c62b0
      try clear c62b1
      try clear c62b2
      try clear c63
      try clear c64
      try clear c65
      try clear hcz43_0
      try clear hcz43_1
      try clear hcz43_2
      try clear hcz43_3
      try clear hcz43_4
      try clear hcz43_5
      try clear hcz43_6
      try clear hcz43_7
      try clear hcz47_0
      try clear hcz47_1
      try clear hcz48_0
      try clear hcz48_1
      try clear hcz48_2
      try clear hcz48_3
      try clear hcz48_4
      try clear hcz57_0
      try clear hcz57_1
      try clear hcz57_2
      try clear hcz57_3
      try clear hcz57_4
      try clear hcz60_0
      try clear hcz60_1
      try clear hcz60_2
      try clear hcz60_3
      try clear hcz60_4
      try clear hcz61_0
      try clear hcz61_1
      try clear hcz61_2
      try clear hcz61_3
      try clear hcz61_4
      try clear hcz61_5
      try clear hcz61_6
      try clear hcz61_7
      try clear hcz66_0
      try clear hcz66_1
      try clear hcz66_2
      try clear hcz66_3
      try clear hcz66_4
      try clear hcz66_5
      try clear hcz66_6
      try clear hcz66_7
      try clear hfz43_0
      try clear hfz43_1
      try clear hfz43_2
      try clear hfz43_3
      try clear hfz43_4
      try clear hfz43_5
      try clear hfz43_6
      try clear hfz43_7
      try clear hfz47_0
      try clear hfz47_1
      try clear hfz48_0
      try clear hfz48_1
      try clear hfz48_2
      try clear hfz48_3
      try clear hfz48_4
      try clear hfz57_0
      try clear hfz57_1
      try clear hfz57_2
      try clear hfz57_3
      try clear hfz57_4
      try clear hfz60_0
      try clear hfz60_1
      try clear hfz60_2
      try clear hfz60_3
      try clear hfz60_4
      try clear hfz61_0
      try clear hfz61_1
      try clear hfz61_2
      try clear hfz61_3
      try clear hfz61_4
      try clear hfz61_5
      try clear hfz61_6
      try clear hfz61_7
      try clear hfz66_0
      try clear hfz66_1
      try clear hfz66_2
      try clear hfz66_3
      try clear hfz66_4
      try clear hfz66_5
      try clear hfz66_6
      try clear hfz66_7
      try clear hx724_0
      try clear hx724_1
      try clear hx724_2
      try clear hx724_3
      try clear hx724_4
      try clear hx724_5
      try clear hx724_6
      try clear hx724_7
      try clear p2
      try clear p7
      try clear p724
      try clear q7
      try clear q724
      obtain ⟨kq, x9_39, rfl, HA, HJ39, HO_718003, HO_718004, HO_751003, HO_751004, BK715, BK716, BK717, BK750, HB⟩ := hcut
      cases kq with
      | zero => exact absurd HA.out (by simp [tolllaw07_FilterPaths.j1])
      | succ kj39 =>
       have H := HA.out
       clear HA
       simp only [tolllaw07_FilterPaths.j1] at H
       have HC67 := Aside0.mk H
       clear H
       go_upto_region 10 with (fail)
       go_cut [67] (fun v67 wc => ∃ (kq : Nat) (x67_66 : Bool), v67 = .bool x67_66 ∧ Aside0 (tolllaw07_FilterPaths.j2 kq x67_66 x716000_3 x716001_3 x716002_3 x716003_3 x716004_3 x716005_3 x716006_3 x716007_3 x717000_3 x717001_3 x718000_3 x718001_3 x718002_3 x718003_3 x718004_3 t740 t741 t742 t743 t746 = some r) ∧ Aside0 (kq ≤ kj39) ∧ Aside0 (Kd.R k59 59 wc w.heap.size (fun k_ => some k_ ≠ ((.slice Ao51 x718004_3.length co51) : Value).ownBlock) (.slice Ao50 x718003_3.length co50) x718003_3) ∧ Aside0 (Kd.R k59 59 wc w.heap.size (fun k_ => some k_ ≠ ((.slice Ao50 x718003_3.length co50) : Value).ownBlock) (.slice Ao51 x718004_3.length co51) x718004_3) ∧ Aside0 (Kd.V k59 59 wc w.heap.size (fun k_ => k_ ≠ gb715 ∧ k_ ≠ gb716 ∧ k_ ≠ gb717 ∧ k_ ≠ gb750) (.slice Ao58 t743.length co58) t743) ∧ Aside0 (Kd.V k59 59 wc w.heap.size (fun k_ => k_ ≠ gb715 ∧ k_ ≠ gb716 ∧ k_ ≠ gb717 ∧ k_ ≠ gb750) (.slice Ao59 t746.length co59) t746) ∧ Aside0 (wc.heap[gb715]? = some (.cells #[.int .i64 x716000_3, .string x716001_3, .string x716002_3, .string x716003_3, .int .i64 x716004_3, .string x716005_3, .bool x716006_3, .int .i64 x716007_3] 26 (0, 0))) ∧ Aside0 (wc.heap[gb716]? = some (.cells #[.int .i64 x717000_3, .string x717001_3] 30 (0, 0))) ∧ Aside0 (wc.heap[gb717]? = some (.cells #[.string x718000_3, .string x718001_3, .string x718002_3, (.slice Ao50 x718003_3.length co50), (.slice Ao51 x718004_3.length co51)] 33 (0, 0))) ∧ Aside0 (wc.heap[gb750]? = some (.cells #[.string t740, .string t741, .string t742, (.slice Ao58 t743.length co58), (.slice Ao59 t746.length co59)] 33 (0, 0))) ∧ Aside0 (Below w.heap.size w wc))
       case first =>
        have H := HC67.out
        clear HC67
        by_cases c68 : t741.toList = x9_39.toList
        ·rw [if_pos c68] at H
         have c68b0 : (t741.toList == x9_39.toList) = true := beq_iff_eq.mpr c68
         have c68b1 : (t741.toList != x9_39.toList) = false := bne_eq_false_iff_eq.mpr c68
         clear c68
         (first | rw [c68b0] | rw [c68b1] | rw [c68b2] | (simp only [i64_w, i32_w]; rw [c68b0]) | skip)
         by_cases c69 : (t742.size : Int) = 0
         ·rw [if_pos c69] at H
          exact absurd H (by simp)
         ·rw [if_neg c69] at H
          have c69b0 : ((t742.size : Int) == 0) = false := beq_eq_false_iff_ne.mpr c69
          have c69b1 : ((t742.size : Int) != 0) = true := bne_iff_ne.mpr c69
          by_cases c70 : 0 < (t742.size : Int)
          ·rw [if_pos c70] at H
           have c70b0 : decide (0 < (t742.size : Int)) = true := decide_eq_true c70
           have c70b1 : decide (0 < t742.size) = true := decide_eq_true (by omega)
           clear c70
           by_cases c72 : (bt t742 0) = 47
           ·rw [if_pos c72] at H
            have c72b0 : ((bt t742 0) == 47) = true := beq_iff_eq.mpr c72
            have c72b1 : ((bt t742 0) != 47) = false := bne_eq_false_iff_eq.mpr c72
            clear c72
            have H' := Aside0.mk H
            clear H
            have hnb73 := NB750_715.out
            have hnc73 := NB715_750.out
            have hnb74 := NB750_716.out
            have hnc74 := NB716_750.out
            have hnb75 := NB750_717.out
            have hnc75 := NB717_750.out
            obtain ⟨hcz76_0, hcz76_1, hcz76_2, hcz76_3, hcz76_4, hfz76_0, hfz76_1, hfz76_2, hfz76_3, hfz76_4⟩ := blk5 BK750.out
            have p71 : 0 ≤ (0 : Int) := (by omega)
            have q71 : 0 < t742.size := (by have : (0 : Int) < (t742.size : Int) := of_decide_eq_true as_; omega)
            have hx71 : ∀ h : 0 < t742.size, ((t742[0]'h).toNat : Int) = bt t742 0 := bt_at t742 0
            clear p71
            have qi71 : (0 < (t742.size : Int)) = True := eq_true (of_decide_eq_true as_)
            replace q71 := eq_true q71
            go_wp2
            go_meet
            case rel => exact ⟨_, (decide ((t742.size : Int) > 60)), sd_, H', ⟨by have := HJ3.out; have := HJ39.out; first | omega | exact Nat.le_refl _⟩, ⟨by (with_reducible repeat (first | apply Kd.R_alloc | apply Kd.R_drewN | apply Kd.R_drew)); exact HO_718003.out⟩, ⟨by (with_reducible repeat (first | apply Kd.R_alloc | apply Kd.R_drewN | apply Kd.R_drew)); exact HO_718004.out⟩, ⟨by (with_reducible repeat (first | apply Kd.V_alloc | apply Kd.V_drewN | apply Kd.V_drew)); exact HO_751003.out⟩, ⟨by (with_reducible repeat (first | apply Kd.V_alloc | apply Kd.V_drewN | apply Kd.V_drew)); exact HO_751004.out⟩, ⟨by (with_reducible repeat (first | refine blk_drewN ?_ _ | refine blk_drew ?_ | refine blk_alloc ?_ _)); exact BK715.out⟩, ⟨by (with_reducible repeat (first | refine blk_drewN ?_ _ | refine blk_drew ?_ | refine blk_alloc ?_ _)); exact BK716.out⟩, ⟨by (with_reducible repeat (first | refine blk_drewN ?_ _ | refine blk_drew ?_ | refine blk_alloc ?_ _)); exact BK717.out⟩, ⟨by (with_reducible repeat (first | refine blk_drewN ?_ _ | refine blk_drew ?_ | refine blk_alloc ?_ _)); exact BK750.out⟩, ⟨bel_ HB.out⟩⟩
           ·rw [if_neg c72] at H
            exact absurd H (by simp)
          ·rw [if_neg c70] at H
           exact absurd H (by simp)
        ·rw [if_neg c68] at H
         exact absurd H (by simp)
       case rest =>
        clear HC67
        try clear c1
        try clear c2
        try clear p2
        try clear c3
        try clear c4
        try clear c5
        try clear c6
        try clear c7
        try clear p7
        try clear q7
        try clear hx7
        try clear qi7
        try clear c8
        try clear c9
        try clear c9b0
        try clear c9b1
        try clear c9b2
        try clear c16
        try clear c17
        try clear c27
        try clear c37
        try clear c37b0
        try clear c37b1
        try clear c39
        try clear c39b0
        try clear c39b1
        try clear c41
        try clear c42
        try clear c46
        try clear c54
        try clear c55
        try clear c56
        try clear c62
        try clear c62b0
        try clear c62b1
        try clear c62b2
        try clear c63
        try clear c64
        try clear c65
        try clear c68
        try clear c68b0
        try clear c68b1
        try clear c68b2
        try clear c69
        try clear c69b0
        try clear c69b1
        try clear c70
        try clear c70b0
        try clear c70b1
        try clear p71
        try clear q71
        try clear hx71
        try clear qi71
        try clear c72
        try clear c72b0
        try clear c72b1
        try clear p72
        try clear q72
        try clear hx72
        try clear qi72
        try clear c73
        try clear c74
        try clear c75
        try clear hcz43_0
        try clear hcz43_1
        try clear hcz43_2
        try clear hcz43_3
        try clear hcz43_4
        try clear hcz43_5
        try clear hcz43_6
        try clear hcz43_7
        try clear hcz47_0
        try clear hcz47_1
        try clear hcz48_0
        try clear hcz48_1
        try clear hcz48_2
        try clear hcz48_3
        try clear hcz48_4
        try clear hcz57_0
        try clear hcz57_1
        try clear hcz57_2
        try clear hcz57_3
        try clear hcz57_4
        try clear hcz60_0
        try clear hcz60_1
        try clear hcz60_2
        try clear hcz60_3
        try clear hcz60_4
        try clear hcz61_0
        try clear hcz61_1
        try clear hcz61_2
        try clear hcz61_3
        try clear hcz61_4
        try clear hcz61_5
        try clear hcz61_6
        try clear hcz61_7
        try clear hcz66_0
        try clear hcz66_1
        try clear hcz66_2
        try clear hcz66_3
        try clear hcz66_4
        try clear hcz66_5
        try clear hcz66_6
        try clear hcz66_7
        try clear hcz76_0
        try clear hcz76_1
        try clear hcz76_2
        try clear hcz76_3
        try clear hcz76_4
        try clear hfz43_0
        try clear hfz43_1
        try clear hfz43_2
        try clear hfz43_3
        try clear hfz43_4
        try clear hfz43_5
        try clear hfz43_6
        try clear hfz43_7
        try clear hfz47_0
        try clear hfz47_1
        try clear hfz48_0
        try clear hfz48_1
        try clear hfz48_2
        try clear hfz48_3
        try clear hfz48_4
        try clear hfz57_0
        try clear hfz57_1
        try clear hfz57_2
        try clear hfz57_3
        try clear hfz57_4
        try clear hfz60_0
        try clear hfz60_1
        try clear hfz60_2
        try clear hfz60_3
        try clear hfz60_4
        try clear hfz61_0
        try clear hfz61_1
        try clear hfz61_2
        try clear hfz61_3
        try clear hfz61_4
        try clear hfz61_5
        try clear hfz61_6
        try clear hfz61_7
        try clear hfz66_0
        try clear hfz66_1
        try clear hfz66_2
        try clear hfz66_3
        try clear hfz66_4
        try clear hfz66_5
        try clear hfz66_6
        try clear hfz66_7
        try clear hfz76_0
        try clear hfz76_1
        try clear hfz76_2
        try clear hfz76_3
        try clear hfz76_4
        try clear hx724_0
        try clear hx724_1
        try clear hx724_2
        try clear hx724_3
        try clear hx724_4
        try clear hx724_5
        try clear hx724_6
        try clear hx724_7
        try clear p2
        try clear p7
        try clear p71
        try clear p724
        try clear q7
        try clear q71
        try clear q724
        obtain ⟨kq, x67_66, rfl, HA, HJ66, HO_718003, HO_718004, HO_751003, HO_751004, BK715, BK716, BK717, BK750, HB⟩ := hcut
        cases kq with
        | zero => exact absurd HA.out (by simp [tolllaw07_FilterPaths.j2])
        | succ kj66 =>
         have H := HA.out
         clear HA
         simp only [tolllaw07_FilterPaths.j2] at H
         by_cases c77 : x67_66 = true
         ·subst c77
          have H1 : (none) = some r := by rw [if_pos rfl] at H; exact H
          clear H
          have H := H1
          clear H1
          exact absurd H (by simp)
         ·replace c77 := Bool.eq_false_iff.mpr c77
          subst c77
          have H1 : (if x716005_3.toList = ([] : List UInt8) then (if t742.toList = x718002_3.toList then ((tolllaw07_awake.f kj66).bind fun t752 => (some t752)) else (none)) else (if x716006_3 = true then (tolllaw07_FilterPaths.j3 kj66 true x716000_3 x716001_3 x716002_3 x716003_3 x716004_3 x716005_3 x716006_3 x716007_3 t740 t741 t742 t743 t746) else (tolllaw07_FilterPaths.j3 kj66 (x717000_3 == 1) x716000_3 x716001_3 x716002_3 x716003_3 x716004_3 x716005_3 x716006_3 x716007_3 t740 t741 t742 t743 t746))) = some r := by rw [if_neg (show ¬ (false = true) by decide)] at H; exact H
          clear H
          have H := H1
          clear H1
          by_cases c78 : x716005_3.toList = ([] : List UInt8)
          ·rw [if_pos c78] at H
           have c78b2 : x716005_3.toList.isEmpty = true := List.isEmpty_iff.2 c78
           have c78b0 : (x716005_3.toList == ([] : List UInt8)) = true := beq_iff_eq.mpr c78
           have c78b1 : (x716005_3.toList != ([] : List UInt8)) = false := bne_eq_false_iff_eq.mpr c78
           clear c78
           by_cases c79 : t742.toList = x718002_3.toList
           ·rw [if_pos c79] at H
            have c79b0 : (t742.toList == x718002_3.toList) = true := beq_iff_eq.mpr c79
            have c79b1 : (t742.toList != x718002_3.toList) = false := bne_eq_false_iff_eq.mpr c79
            clear c79
            replace H := Option.bind_eq_some_iff.mp H
            obtain ⟨t752, A800, H⟩ := H
            replace H : (some t752) = some r := H
            have A80 := Aside0.mk A800
            clear A800
            obtain rfl := Option.some.inj H
            have hnb81 := NB715_716.out
            have hnc81 := NB716_715.out
            have hnb82 := NB715_717.out
            have hnc82 := NB717_715.out
            have hnb83 := NB715_750.out
            have hnc83 := NB750_715.out
            obtain ⟨hcz84_0, hcz84_1, hcz84_2, hcz84_3, hcz84_4, hcz84_5, hcz84_6, hcz84_7, hfz84_0, hfz84_1, hfz84_2, hfz84_3, hfz84_4, hfz84_5, hfz84_6, hfz84_7⟩ := blk8 BK715.out
            have hnb85 := NB750_716.out
            have hnc85 := NB716_750.out
            have hnb86 := NB750_717.out
            have hnc86 := NB717_750.out
            obtain ⟨hcz87_0, hcz87_1, hcz87_2, hcz87_3, hcz87_4, hfz87_0, hfz87_1, hfz87_2, hfz87_3, hfz87_4⟩ := blk5 BK750.out
            have hnb88 := NB717_716.out
            have hnc88 := NB716_717.out
            obtain ⟨hcz89_0, hcz89_1, hcz89_2, hcz89_3, hcz89_4, hfz89_0, hfz89_1, hfz89_2, hfz89_3, hfz89_4⟩ := blk5 BK717.out
            go_wp2_with (first | (go_at_call 14; (with_reducible refine (tolllaw07_awake.calls kj66  t752 _ (gm_ HGL.out (bel_ HB.out)) A80.out).mono ?_); rintro e w90 ⟨rfl, hb⟩; have n0_ := am_ (Kd.R_below (R_ HO_718003.out) hb); have n1_ := am_ (Kd.R_below (R_ HO_718004.out) hb); have n2_ := am_ (Kd.V_below (by (with_reducible repeat (first | apply Kd.V_alloc | apply Kd.V_drewN | apply Kd.V_drew)); exact HO_751003.out) hb); have n3_ := am_ (Kd.V_below (by (with_reducible repeat (first | apply Kd.V_alloc | apply Kd.V_drewN | apply Kd.V_drew)); exact HO_751004.out) hb); have n4_ := am_ (blk_below (g := gb715) (o := .cells #[.int .i64 x716000_3, .string x716001_3, .string x716002_3, .string x716003_3, .int .i64 x716004_3, .string x716005_3, .bool x716006_3, .int .i64 x716007_3] 26 (0, 0)) (blk_ BK715.out) hb); have n5_ := am_ (blk_below (g := gb716) (o := .cells #[.int .i64 x717000_3, .string x717001_3] 30 (0, 0)) (blk_ BK716.out) hb); have n6_ := am_ (blk_below (g := gb717) (o := .cells #[.string x718000_3, .string x718001_3, .string x718002_3, .slice Ao50 x718003_3.length co50, .slice Ao51 x718004_3.length co51] 33 (0, 0)) (blk_ BK717.out) hb); have n7_ := am_ (blk_below (g := gb750) (o := .cells #[.string t740, .string t741, .string t742, .slice Ao58 t743.length co58, .slice Ao59 t746.length co59] 33 (0, 0)) (blk_ BK750.out) hb); have n8_ := am_ (below_step (bel_ HB.out) hb); clear HO_718003 HO_718004 HO_751003 HO_751004 BK715 BK716 BK717 BK750 HB; have HO_718003 := n0_; have HO_718004 := n1_; have HO_751003 := n2_; have HO_751004 := n3_; have BK715 := n4_; have BK716 := n5_; have BK717 := n6_; have BK750 := n7_; have HB := n8_; clear n0_ n1_ n2_ n3_ n4_ n5_ n6_ n7_ n8_; (try clear hb); (try clear hb2); (try clear hk); (try clear hi)))
            go_ret
            exact ⟨fi_, bel_ HB.out⟩
           ·rw [if_neg c79] at H
            exact absurd H (by simp)
          ·rw [if_neg c78] at H
           have c78b2 : x716005_3.toList.isEmpty = false := by rw [List.isEmpty_eq_false_iff]; exact c78
           have c78b0 : (x716005_3.toList == ([] : List UInt8)) = false := beq_eq_false_iff_ne.mpr c78
           have c78b1 : (x716005_3.toList != ([] : List UInt8)) = true := bne_iff_ne.mpr c78
           have HC91 := Aside0.mk H
           clear H
           have hnb92 := NB715_716.out
           have hnc92 := NB716_715.out
           have hnb93 := NB715_717.out
           have hnc93 := NB717_715.out
           have hnb94 := NB715_750.out
           have hnc94 := NB750_715.out
           obtain ⟨hcz95_0, hcz95_1, hcz95_2, hcz95_3, hcz95_4, hcz95_5, hcz95_6, hcz95_7, hfz95_0, hfz95_1, hfz95_2, hfz95_3, hfz95_4, hfz95_5, hfz95_6, hfz95_7⟩ := blk8 BK715.out
           go_upto_region 14 with (fail)
           go_cut [80] (fun v80 wc => ∃ (kq : Nat) (x80_90 : Bool), v80 = .bool x80_90 ∧ Aside0 (tolllaw07_FilterPaths.j3 kq x80_90 x716000_3 x716001_3 x716002_3 x716003_3 x716004_3 x716005_3 x716006_3 x716007_3 t740 t741 t742 t743 t746 = some r) ∧ Aside0 (kq ≤ kj66) ∧ Aside0 (Kd.R k59 59 wc w.heap.size (fun k_ => some k_ ≠ ((.slice Ao51 x718004_3.length co51) : Value).ownBlock) (.slice Ao50 x718003_3.length co50) x718003_3) ∧ Aside0 (Kd.R k59 59 wc w.heap.size (fun k_ => some k_ ≠ ((.slice Ao50 x718003_3.length co50) : Value).ownBlock) (.slice Ao51 x718004_3.length co51) x718004_3) ∧ Aside0 (Kd.V k59 59 wc w.heap.size (fun k_ => k_ ≠ gb715 ∧ k_ ≠ gb716 ∧ k_ ≠ gb717 ∧ k_ ≠ gb750) (.slice Ao58 t743.length co58) t743) ∧ Aside0 (Kd.V k59 59 wc w.heap.size (fun k_ => k_ ≠ gb715 ∧ k_ ≠ gb716 ∧ k_ ≠ gb717 ∧ k_ ≠ gb750) (.slice Ao59 t746.length co59) t746) ∧ Aside0 (wc.heap[gb715]? = some (.cells #[.int .i64 x716000_3, .string x716001_3, .string x716002_3, .string x716003_3, .int .i64 x716004_3, .string x716005_3, .bool x716006_3, .int .i64 x716007_3] 26 (0, 0))) ∧ Aside0 (wc.heap[gb716]? = some (.cells #[.int .i64 x717000_3, .string x717001_3] 30 (0, 0))) ∧ Aside0 (wc.heap[gb717]? = some (.cells #[.string x718000_3, .string x718001_3, .string x718002_3, (.slice Ao50 x718003_3.length co50), (.slice Ao51 x718004_3.length co51)] 33 (0, 0))) ∧ Aside0 (wc.heap[gb750]? = some (.cells #[.string t740, .string t741, .string t742, (.slice Ao58 t743.length co58), (.slice Ao59 t746.length co59)] 33 (0, 0))) ∧ Aside0 (Below w.heap.size w wc))
           case first =>
            have H := HC91.out
            clear HC91
            by_cases c96 : x716006_3 = true
            ·subst c96
             have H1 : (tolllaw07_FilterPaths.j3 kj66 true x716000_3 x716001_3 x716002_3 x716003_3 x716004_3 x716005_3 true x716007_3 t740 t741 t742 t743 t746) = some r := by rw [if_pos rfl] at H; exact H
             clear H
             have H := H1
             clear H1
             have H' := Aside0.mk H
             clear H
             have hnb97 := NB715_716.out
             have hnc97 := NB716_715.out
             have hnb98 := NB715_717.out
             have hnc98 := NB717_715.out
             have hnb99 := NB715_750.out
             have hnc99 := NB750_715.out
             obtain ⟨hcz100_0, hcz100_1, hcz100_2, hcz100_3, hcz100_4, hcz100_5, hcz100_6, hcz100_7, hfz100_0, hfz100_1, hfz100_2, hfz100_3, hfz100_4, hfz100_5, hfz100_6, hfz100_7⟩ := blk8 BK715.out
             go_wp2
             go_meet
             case rel => exact ⟨_, (true), sd_, H', ⟨by have := HJ3.out; have := HJ39.out; have := HJ66.out; first | omega | exact Nat.le_refl _⟩, ⟨by (with_reducible repeat (first | apply Kd.R_alloc | apply Kd.R_drewN | apply Kd.R_drew)); exact HO_718003.out⟩, ⟨by (with_reducible repeat (first | apply Kd.R_alloc | apply Kd.R_drewN | apply Kd.R_drew)); exact HO_718004.out⟩, ⟨by (with_reducible repeat (first | apply Kd.V_alloc | apply Kd.V_drewN | apply Kd.V_drew)); exact HO_751003.out⟩, ⟨by (with_reducible repeat (first | apply Kd.V_alloc | apply Kd.V_drewN | apply Kd.V_drew)); exact HO_751004.out⟩, ⟨by (with_reducible repeat (first | refine blk_drewN ?_ _ | refine blk_drew ?_ | refine blk_alloc ?_ _)); exact BK715.out⟩, ⟨by (with_reducible repeat (first | refine blk_drewN ?_ _ | refine blk_drew ?_ | refine blk_alloc ?_ _)); exact BK716.out⟩, ⟨by (with_reducible repeat (first | refine blk_drewN ?_ _ | refine blk_drew ?_ | refine blk_alloc ?_ _)); exact BK717.out⟩, ⟨by (with_reducible repeat (first | refine blk_drewN ?_ _ | refine blk_drew ?_ | refine blk_alloc ?_ _)); exact BK750.out⟩, ⟨bel_ HB.out⟩⟩
            ·replace c96 := Bool.eq_false_iff.mpr c96
             subst c96
             have H1 : (tolllaw07_FilterPaths.j3 kj66 (x717000_3 == 1) x716000_3 x716001_3 x716002_3 x716003_3 x716004_3 x716005_3 false x716007_3 t740 t741 t742 t743 t746) = some r := by rw [if_neg (show ¬ (false = true) by decide)] at H; exact H
             clear H
             have H := H1
             clear H1
             have H' := Aside0.mk H
             clear H
             have hnb101 := NB715_716.out
             have hnc101 := NB716_715.out
             have hnb102 := NB715_717.out
             have hnc102 := NB717_715.out
             have hnb103 := NB715_750.out
             have hnc103 := NB750_715.out
             obtain ⟨hcz104_0, hcz104_1, hcz104_2, hcz104_3, hcz104_4, hcz104_5, hcz104_6, hcz104_7, hfz104_0, hfz104_1, hfz104_2, hfz104_3, hfz104_4, hfz104_5, hfz104_6, hfz104_7⟩ := blk8 BK715.out
             have hnb105 := NB716_717.out
             have hnc105 := NB717_716.out
             have hnb106 := NB716_750.out
             have hnc106 := NB750_716.out
             obtain ⟨hcz107_0, hcz107_1, hfz107_0, hfz107_1⟩ := blk2 BK716.out
             go_wp2
             go_meet
             case rel => exact ⟨_, ((x717000_3 == 1)), sd_, H', ⟨by have := HJ3.out; have := HJ39.out; have := HJ66.out; first | omega | exact Nat.le_refl _⟩, ⟨by (with_reducible repeat (first | apply Kd.R_alloc | apply Kd.R_drewN | apply Kd.R_drew)); exact HO_718003.out⟩, ⟨by (with_reducible repeat (first | apply Kd.R_alloc | apply Kd.R_drewN | apply Kd.R_drew)); exact HO_718004.out⟩, ⟨by (with_reducible repeat (first | apply Kd.V_alloc | apply Kd.V_drewN | apply Kd.V_drew)); exact HO_751003.out⟩, ⟨by (with_reducible repeat (first | apply Kd.V_alloc | apply Kd.V_drewN | apply Kd.V_drew)); exact HO_751004.out⟩, ⟨by (with_reducible repeat (first | refine blk_drewN ?_ _ | refine blk_drew ?_ | refine blk_alloc ?_ _)); exact BK715.out⟩, ⟨by (with_reducible repeat (first | refine blk_drewN ?_ _ | refine blk_drew ?_ | refine blk_alloc ?_ _)); exact BK716.out⟩, ⟨by (with_reducible repeat (first | refine blk_drewN ?_ _ | refine blk_drew ?_ | refine blk_alloc ?_ _)); exact BK717.out⟩, ⟨by (with_reducible repeat (first | refine blk_drewN ?_ _ | refine blk_drew ?_ | refine blk_alloc ?_ _)); exact BK750.out⟩, ⟨bel_ HB.out⟩⟩
           case rest =>
            clear HC91
            try clear c1
            try clear c2
            try clear p2
            try clear c3
            try clear c4
            try clear c5
            try clear c6
            try clear c7
            try clear p7
            try clear q7
            try clear hx7
            try clear qi7
            try clear c8
            try clear c9
            try clear c9b0
            try clear c9b1
            try clear c9b2
            try clear c10
            try clear c16
            try clear c17
            try clear c27
            try clear c37
            try clear c37b0
            try clear c37b1
            try clear c39
            try clear c39b0
            try clear c39b1
            try clear c41
            try clear c42
            try clear c46
            try clear c54
            try clear c55
            try clear c56
            try clear c62
            try clear c62b0
            try clear c62b1
            try clear c62b2
            try clear c63
            try clear c64
            try clear c65
            try clear c68
            try clear c68b0
            try clear c68b1
            try clear c68b2
            try clear c69
            try clear c69b0
            try clear c69b1
            try clear c70
            try clear c70b0
            try clear c70b1
            try clear p71
            try clear q71
            try clear hx71
            try clear qi71
            try clear c72
            try clear c72b0
            try clear c72b1
            try clear p72
            try clear q72
            try clear hx72
            try clear qi72
            try clear c73
            try clear c74
            try clear c75
            try clear c77
            try clear c78
            try clear c78b0
            try clear c78b1
            try clear c79
            try clear c79b0
            try clear c79b1
            try clear c81
            try clear c82
            try clear c83
            try clear c85
            try clear c86
            try clear c88
            try clear c92
            try clear c93
            try clear c94
            try clear c96
            try clear c97
            try clear c98
            try clear c99
            try clear c101
            try clear c102
            try clear c103
            try clear c105
            try clear c106
            try clear hcz100_0
            try clear hcz100_1
            try clear hcz100_2
            try clear hcz100_3
            try clear hcz100_4
            try clear hcz100_5
            try clear hcz100_6
            try clear hcz100_7
            try clear hcz104_0
            try clear hcz104_1
            try clear hcz104_2
            try clear hcz104_3
            try clear hcz104_4
            try clear hcz104_5
            try clear hcz104_6
            try clear hcz104_7
            try clear hcz107_0
            try clear hcz107_1
            try clear hcz43_0
            try clear hcz43_1
            try clear hcz43_2
            try clear hcz43_3
            try clear hcz43_4
            try clear hcz43_5
            try clear hcz43_6
            try clear hcz43_7
            try clear hcz47_0
            try clear hcz47_1
            try clear hcz48_0
            try clear hcz48_1
            try clear hcz48_2
            try clear hcz48_3
            try clear hcz48_4
            try clear hcz57_0
            try clear hcz57_1
            try clear hcz57_2
            try clear hcz57_3
            try clear hcz57_4
            try clear hcz60_0
            try clear hcz60_1
            try clear hcz60_2
            try clear hcz60_3
            try clear hcz60_4
            try clear hcz61_0
            try clear hcz61_1
            try clear hcz61_2
            try clear hcz61_3
            try clear hcz61_4
            try clear hcz61_5
            try clear hcz61_6
            try clear hcz61_7
            try clear hcz66_0
            try clear hcz66_1
            try clear hcz66_2
            try clear hcz66_3
            try clear hcz66_4
            try clear hcz66_5
            try clear hcz66_6
            try clear hcz66_7
            try clear hcz76_0
            try clear hcz76_1
            try clear hcz76_2
            try clear hcz76_3
            try clear hcz76_4
            try clear hcz84_0
            try clear hcz84_1
            try clear hcz84_2
            try clear hcz84_3
            try clear hcz84_4
            try clear hcz84_5
            try clear hcz84_6
            try clear hcz84_7
            try clear hcz87_0
            try clear hcz87_1
            try clear hcz87_2
            try clear hcz87_3
            try clear hcz87_4
            try clear hcz89_0
            try clear hcz89_1
            try clear hcz89_2
            try clear hcz89_3
            try clear hcz89_4
            try clear hcz95_0
            try clear hcz95_1
            try clear hcz95_2
            try clear hcz95_3
            try clear hcz95_4
            try clear hcz95_5
            try clear hcz95_6
            try clear hcz95_7
            try clear hfz100_0
            try clear hfz100_1
            try clear hfz100_2
            try clear hfz100_3
            try clear hfz100_4
            try clear hfz100_5
            try clear hfz100_6
            try clear hfz100_7
            try clear hfz104_0
            try clear hfz104_1
            try clear hfz104_2
            try clear hfz104_3
            try clear hfz104_4
            try clear hfz104_5
            try clear hfz104_6
            try clear hfz104_7
            try clear hfz107_0
            try clear hfz107_1
            try clear hfz43_0
            try clear hfz43_1
            try clear hfz43_2
            try clear hfz43_3
            try clear hfz43_4
            try clear hfz43_5
            try clear hfz43_6
            try clear hfz43_7
            try clear hfz47_0
            try clear hfz47_1
            try clear hfz48_0
            try clear hfz48_1
            try clear hfz48_2
            try clear hfz48_3
            try clear hfz48_4
            try clear hfz57_0
            try clear hfz57_1
            try clear hfz57_2
            try clear hfz57_3
            try clear hfz57_4
            try clear hfz60_0
            try clear hfz60_1
            try clear hfz60_2
            try clear hfz60_3
            try clear hfz60_4
            try clear hfz61_0
            try clear hfz61_1
            try clear hfz61_2
            try clear hfz61_3
            try clear hfz61_4
            try clear hfz61_5
            try clear hfz61_6
            try clear hfz61_7
            try clear hfz66_0
            try clear hfz66_1
            try clear hfz66_2
            try clear hfz66_3
            try clear hfz66_4
            try clear hfz66_5
            try clear hfz66_6
            try clear hfz66_7
            try clear hfz76_0
            try clear hfz76_1
            try clear hfz76_2
            try clear hfz76_3
            try clear hfz76_4
            try clear hfz84_0
            try clear hfz84_1
            try clear hfz84_2
            try clear hfz84_3
            try clear hfz84_4
            try clear hfz84_5
            try clear hfz84_6
            try clear hfz84_7
            try clear hfz87_0
            try clear hfz87_1
            try clear hfz87_2
            try clear hfz87_3
            try clear hfz87_4
            try clear hfz89_0
            try clear hfz89_1
            try clear hfz89_2
            try clear hfz89_3
            try clear hfz89_4
            try clear hfz95_0
            try clear hfz95_1
            try clear hfz95_2
            try clear hfz95_3
            try clear hfz95_4
            try clear hfz95_5
            try clear hfz95_6
            try clear hfz95_7
            try clear hx724_0
            try clear hx724_1
            try clear hx724_2
            try clear hx724_3
            try clear hx724_4
            try clear hx724_5
            try clear hx724_6
            try clear hx724_7
            try clear p2
            try clear p7
            try clear p71
            try clear p72
            try clear p724
            try clear q7
            try clear q71
            try clear q72
            try clear q724
            obtain ⟨kq, x80_90, rfl, HA, HJ90, HO_718003, HO_718004, HO_751003, HO_751004, BK715, BK716, BK717, BK750, HB⟩ := hcut
            cases kq with
            | zero => exact absurd HA.out (by simp [tolllaw07_FilterPaths.j3])
            | succ kj90 =>
             have H := HA.out
             clear HA
             simp only [tolllaw07_FilterPaths.j3] at H
             by_cases c108 : x80_90 = true
             ·subst c108
              have H1 : (if t742.toList = x716005_3.toList then ((tolllaw07_awake.f kj90).bind fun t753 => (some t753)) else (none)) = some r := by rw [if_pos rfl] at H; exact H
              clear H
              have H := H1
              clear H1
              by_cases c109 : t742.toList = x716005_3.toList
              ·rw [if_pos c109] at H
               have c109b0 : (t742.toList == x716005_3.toList) = true := beq_iff_eq.mpr c109
               have c109b1 : (t742.toList != x716005_3.toList) = false := bne_eq_false_iff_eq.mpr c109
               clear c109
               replace H := Option.bind_eq_some_iff.mp H
               obtain ⟨t753, A1100, H⟩ := H
               replace H : (some t753) = some r := H
               have A110 := Aside0.mk A1100
               clear A1100
               obtain rfl := Option.some.inj H
               have hnb111 := NB750_715.out
               have hnc111 := NB715_750.out
               have hnb112 := NB750_716.out
               have hnc112 := NB716_750.out
               have hnb113 := NB750_717.out
               have hnc113 := NB717_750.out
               obtain ⟨hcz114_0, hcz114_1, hcz114_2, hcz114_3, hcz114_4, hfz114_0, hfz114_1, hfz114_2, hfz114_3, hfz114_4⟩ := blk5 BK750.out
               have hnb115 := NB715_716.out
               have hnc115 := NB716_715.out
               have hnb116 := NB715_717.out
               have hnc116 := NB717_715.out
               obtain ⟨hcz117_0, hcz117_1, hcz117_2, hcz117_3, hcz117_4, hcz117_5, hcz117_6, hcz117_7, hfz117_0, hfz117_1, hfz117_2, hfz117_3, hfz117_4, hfz117_5, hfz117_6, hfz117_7⟩ := blk8 BK715.out
               go_wp2_with (first | (go_at_call 14; (with_reducible refine (tolllaw07_awake.calls kj90  t753 _ (gm_ HGL.out (bel_ HB.out)) A110.out).mono ?_); rintro e w118 ⟨rfl, hb⟩; have n0_ := am_ (Kd.R_below (R_ HO_718003.out) hb); have n1_ := am_ (Kd.R_below (R_ HO_718004.out) hb); have n2_ := am_ (Kd.V_below (by (with_reducible repeat (first | apply Kd.V_alloc | apply Kd.V_drewN | apply Kd.V_drew)); exact HO_751003.out) hb); have n3_ := am_ (Kd.V_below (by (with_reducible repeat (first | apply Kd.V_alloc | apply Kd.V_drewN | apply Kd.V_drew)); exact HO_751004.out) hb); have n4_ := am_ (blk_below (g := gb715) (o := .cells #[.int .i64 x716000_3, .string x716001_3, .string x716002_3, .string x716003_3, .int .i64 x716004_3, .string x716005_3, .bool x716006_3, .int .i64 x716007_3] 26 (0, 0)) (blk_ BK715.out) hb); have n5_ := am_ (blk_below (g := gb716) (o := .cells #[.int .i64 x717000_3, .string x717001_3] 30 (0, 0)) (blk_ BK716.out) hb); have n6_ := am_ (blk_below (g := gb717) (o := .cells #[.string x718000_3, .string x718001_3, .string x718002_3, .slice Ao50 x718003_3.length co50, .slice Ao51 x718004_3.length co51] 33 (0, 0)) (blk_ BK717.out) hb); have n7_ := am_ (blk_below (g := gb750) (o := .cells #[.string t740, .string t741, .string t742, .slice Ao58 t743.length co58, .slice Ao59 t746.length co59] 33 (0, 0)) (blk_ BK750.out) hb); have n8_ := am_ (below_step (bel_ HB.out) hb); clear HO_718003 HO_718004 HO_751003 HO_751004 BK715 BK716 BK717 BK750 HB; have HO_718003 := n0_; have HO_718004 := n1_; have HO_751003 := n2_; have HO_751004 := n3_; have BK715 := n4_; have BK716 := n5_; have BK717 := n6_; have BK750 := n7_; have HB := n8_; clear n0_ n1_ n2_ n3_ n4_ n5_ n6_ n7_ n8_; (try clear hb); (try clear hb2); (try clear hk); (try clear hi)))
               go_ret
               exact ⟨fi_, bel_ HB.out⟩
              ·rw [if_neg c109] at H
               exact absurd H (by simp)
             ·replace c108 := Bool.eq_false_iff.mpr c108
              subst c108
              have H1 : (if x716005_3.toList = ([47] : List UInt8) then ((tolllaw07_awake.f kj90).bind fun t754 => (some t754)) else (if t742.toList = x716005_3.toList then ((tolllaw07_awake.f kj90).bind fun t755 => (some t755)) else (if (t742.size : Int) > (x716005_3.size : Int) then (if 0 ≤ (wrap64 ((x716005_3.size : Int) + 1)) then (if (wrap64 ((x716005_3.size : Int) + 1)) ≤ (t742.size : Int) then (if x716005_3.size + 1 ≤ 9223372036854775807 then (if (t742.extract 0 ((wrap64 ((x716005_3.size : Int) + 1)) : Int).toNat).toList = (x716005_3 ++ (⟨#[47]⟩ : ByteArray)).toList then ((tolllaw07_awake.f kj90).bind fun t756 => (some t756)) else (none)) else (none)) else (none)) else (none)) else (none)))) = some r := by rw [if_neg (show ¬ (false = true) by decide)] at H; exact H
              clear H
              have H := H1
              clear H1
              by_cases c119 : x716005_3.toList = ([47] : List UInt8)
              ·rw [if_pos c119] at H
               have c119b0 : (x716005_3.toList == ([47] : List UInt8)) = true := beq_iff_eq.mpr c119
               have c119b1 : (x716005_3.toList != ([47] : List UInt8)) = false := bne_eq_false_iff_eq.mpr c119
               clear c119
               replace H := Option.bind_eq_some_iff.mp H
               obtain ⟨t754, A1200, H⟩ := H
               replace H : (some t754) = some r := H
               have A120 := Aside0.mk A1200
               clear A1200
               obtain rfl := Option.some.inj H
               try go_wp2
               have n0_ := am_ (Kd.R_drew HO_718003.out)
               have n1_ := am_ (Kd.R_drew HO_718004.out)
               have n2_ := am_ (Kd.V_drew HO_751003.out)
               have n3_ := am_ (Kd.V_drew HO_751004.out)
               have n4_ := am_ (blk_drew BK715.out)
               have n5_ := am_ (blk_drew BK716.out)
               have n6_ := am_ (blk_drew BK717.out)
               have n7_ := am_ (blk_drew BK750.out)
               have n8_ := am_ (below_drew1 HB.out)
               clear HO_718003 HO_718004 HO_751003 HO_751004 BK715 BK716 BK717 BK750 HB
               have HO_718003 := n0_
               have HO_718004 := n1_
               have HO_751003 := n2_
               have HO_751004 := n3_
               have BK715 := n4_
               have BK716 := n5_
               have BK717 := n6_
               have BK750 := n7_
               have HB := n8_
               clear n0_ n1_ n2_ n3_ n4_ n5_ n6_ n7_ n8_
               refine start_ (n := 36) (S := fun w' => w'.cell? ⟨gb715, 0, none⟩ = some (.int .i64 x716000_3) ∧ w'.cell? ⟨gb715, 1, none⟩ = some (.string x716001_3) ∧ w'.cell? ⟨gb715, 2, none⟩ = some (.string x716002_3) ∧ w'.cell? ⟨gb715, 3, none⟩ = some (.string x716003_3) ∧ w'.cell? ⟨gb715, 4, none⟩ = some (.int .i64 x716004_3) ∧ w'.cell? ⟨gb715, 5, none⟩ = some (.string x716005_3) ∧ w'.cell? ⟨gb715, 6, none⟩ = some (.bool x716006_3) ∧ w'.cell? ⟨gb715, 7, none⟩ = some (.int .i64 x716007_3)) (ds := []) #[false, false, false, false, false, false, false, false, false, false, false, false, false, false, false, false, false, false, false, false, false, false, false, false, false, false, false, false, false, false, false, false, false, false, false, false] kr_ rfl rfl ⟨(blk_cell BK715.out 0).trans rfl, (blk_cell BK715.out 1).trans rfl, (blk_cell BK715.out 2).trans rfl, (blk_cell BK715.out 3).trans rfl, (blk_cell BK715.out 4).trans rfl, (blk_cell BK715.out 5).trans rfl, (blk_cell BK715.out 6).trans rfl, (blk_cell BK715.out 7).trans rfl⟩ (fun hHeld => ?_); refine with_tabW tolllaw07_FilterPaths.tab16 tolllaw07_FilterPaths.bits16 (fun HT_ HW_ => ?_)
               generalize wc.drew = w121 at HO_718003 HO_718004 HO_751003 HO_751004 BK715 BK716 BK717 BK750 HB hHeld ⊢
               refine pure_ (i := 0) (N := some 96) (v := ?_) (a' := ?_) #[true, false, false, false, false, false, false, false, false, false, false, false, false, false, false, false, false, false, false, false, false, false, false, false, false, false, false, false, false, false, false, false, false, false, false, false] rfl rfl (any_of HT_.out kr_) (fun _ _ _ h => h) (Or.inl ⟨by rfl, ?_⟩) ?_ ?_
               rotate_left
               ·intro w'
                go_simp
                with_reducible rfl
               rotate_left
               ·simp only [Act.put, sx_, s0_, s1_, i64_w, i32_w]
                rfl
               refine take_ (i := 1) (N := some 97) (v := ?_) (a' := ?_) #[true, true, false, false, false, false, false, false, false, false, false, false, false, false, false, false, false, false, false, false, false, false, false, false, false, false, false, false, false, false, false, false, false, false, false, false] rfl rfl (take_ofW HT_.out HW_.out kr_) (fun _ _ _ h => h) (Or.inl ⟨by rfl, ?_⟩) hHeld ?_ ?_
               rotate_left
               ·rintro w' ⟨s0, s1, s2, s3, s4, s5, s6, s7⟩
                go_simp
                with_reducible rfl
               rotate_left
               ·simp only [Act.put, sx_, s0_, s1_, i64_w, i32_w]
                rfl
               refine pure_ (i := 2) (N := some 98) (v := ?_) (a' := ?_) #[true, true, true, false, false, false, false, false, false, false, false, false, false, false, false, false, false, false, false, false, false, false, false, false, false, false, false, false, false, false, false, false, false, false, false, false] rfl rfl (any_of HT_.out kr_) (fun _ _ _ h => h) (Or.inl ⟨by rfl, ?_⟩) ?_ ?_
               rotate_left
               ·intro w'
                go_simp
                with_reducible rfl
               rotate_left
               ·simp only [Act.put, sx_, s0_, s1_, i64_w, i32_w]
                rfl
               refine pure_ (i := 3) (N := some 99) (v := ?_) (a' := ?_) #[true, true, true, true, false, false, false, false, false, false, false, false, false, false, false, false, false, false, false, false, false, false, false, false, false, false, false, false, false, false, false, false, false, false, false, false] rfl rfl (any_of HT_.out kr_) (fun _ _ _ h => h) (Or.inl ⟨by rfl, ?_⟩) ?_ ?_
               rotate_left
               ·intro w'
                go_simp
                with_reducible rfl
               rotate_left
               ·simp only [Act.put, sx_, s0_, s1_, i64_w, i32_w]
                rfl
               refine pure_ (i := 4) (N := some 100) (v := undef) (a' := ?_) #[true, true, true, true, true, false, false, false, false, false, false, false, false, false, false, false, false, false, false, false, false, false, false, false, false, false, false, false, false, false, false, false, false, false, false, false] rfl rfl (any_of HT_.out kr_) (fun _ _ _ h => h) (Or.inr ⟨by rfl, rfl⟩) ?_ ?_
               rotate_left
               ·simp only [Act.put, sx_, s0_, s1_, i64_w, i32_w]
                rfl
               refine pure_ (i := 5) (N := some 101) (v := undef) (a' := ?_) #[true, true, true, true, true, true, false, false, false, false, false, false, false, false, false, false, false, false, false, false, false, false, false, false, false, false, false, false, false, false, false, false, false, false, false, false] rfl rfl (any_of HT_.out kr_) (fun _ _ _ h => h) (Or.inr ⟨by rfl, rfl⟩) ?_ ?_
               rotate_left
               ·simp only [Act.put, sx_, s0_, s1_, i64_w, i32_w]
                rfl
               refine pure_ (i := 6) (N := some 102) (v := undef) (a' := ?_) #[true, true, true, true, true, true, true, false, false, false, false, false, false, false, false, false, false, false, false, false, false, false, false, false, false, false, false, false, false, false, false, false, false, false, false, false] rfl rfl (any_of HT_.out kr_) (fun _ _ _ h => h) (Or.inr ⟨by rfl, rfl⟩) ?_ ?_
               rotate_left
               ·simp only [Act.put, sx_, s0_, s1_, i64_w, i32_w]
                rfl
               refine pure_ (i := 7) (N := some 103) (v := undef) (a' := ?_) #[true, true, true, true, true, true, true, true, false, false, false, false, false, false, false, false, false, false, false, false, false, false, false, false, false, false, false, false, false, false, false, false, false, false, false, false] rfl rfl (any_of HT_.out kr_) (fun _ _ _ h => h) (Or.inr ⟨by rfl, rfl⟩) ?_ ?_
               rotate_left
               ·simp only [Act.put, sx_, s0_, s1_, i64_w, i32_w]
                rfl
               refine pure_ (i := 8) (N := some 104) (v := undef) (a' := ?_) #[true, true, true, true, true, true, true, true, true, false, false, false, false, false, false, false, false, false, false, false, false, false, false, false, false, false, false, false, false, false, false, false, false, false, false, false] rfl rfl (any_of HT_.out kr_) (fun _ _ _ h => h) (Or.inr ⟨by rfl, rfl⟩) ?_ ?_
               rotate_left
               ·simp only [Act.put, sx_, s0_, s1_, i64_w, i32_w]
                rfl
               refine pure_ (i := 9) (N := some 105) (v := ?_) (a' := ?_) #[true, true, true, true, true, true, true, true, true, true, false, false, false, false, false, false, false, false, false, false, false, false, false, false, false, false, false, false, false, false, false, false, false, false, false, false] rfl rfl (any_of HT_.out kr_) (fun _ _ _ h => h) (Or.inl ⟨by rfl, ?_⟩) ?_ ?_
               rotate_left
               ·intro w'
                go_simp
                with_reducible rfl
               rotate_left
               ·simp only [Act.put, sx_, s0_, s1_, i64_w, i32_w]
                rfl
               refine pure_ (i := 10) (N := some 106) (v := ?_) (a' := ?_) #[true, true, true, true, true, true, true, true, true, true, true, false, false, false, false, false, false, false, false, false, false, false, false, false, false, false, false, false, false, false, false, false, false, false, false, false] rfl rfl (any_of HT_.out kr_) (fun _ _ _ h => h) (Or.inl ⟨by rfl, ?_⟩) ?_ ?_
               rotate_left
               ·intro w'
                go_simp
                with_reducible rfl
               rotate_left
               ·simp only [Act.put, sx_, s0_, s1_, i64_w, i32_w]
                rfl
               refine pure_ (i := 11) (N := some 107) (v := undef) (a' := ?_) #[true, true, true, true, true, true, true, true, true, true, true, true, false, false, false, false, false, false, false, false, false, false, false, false, false, false, false, false, false, false, false, false, false, false, false, false] rfl rfl (any_of HT_.out kr_) (fun _ _ _ h => h) (Or.inr ⟨by rfl, rfl⟩) ?_ ?_
               rotate_left
               ·simp only [Act.put, sx_, s0_, s1_, i64_w, i32_w]
                rfl
               refine pure_ (i := 12) (N := some 108) (v := undef) (a' := ?_) #[true, true, true, true, true, true, true, true, true, true, true, true, true, false, false, false, false, false, false, false, false, false, false, false, false, false, false, false, false, false, false, false, false, false, false, false] rfl rfl (any_of HT_.out kr_) (fun _ _ _ h => h) (Or.inr ⟨by rfl, rfl⟩) ?_ ?_
               rotate_left
               ·simp only [Act.put, sx_, s0_, s1_, i64_w, i32_w]
                rfl
               refine pure_ (i := 13) (N := some 109) (v := undef) (a' := ?_) #[true, true, true, true, true, true, true, true, true, true, true, true, true, true, false, false, false, false, false, false, false, false, false, false, false, false, false, false, false, false, false, false, false, false, false, false] rfl rfl (any_of HT_.out kr_) (fun _ _ _ h => h) (Or.inr ⟨by rfl, rfl⟩) ?_ ?_
               rotate_left
               ·simp only [Act.put, sx_, s0_, s1_, i64_w, i32_w]
                rfl
               refine pure_ (i := 14) (N := some 110) (v := undef) (a' := ?_) #[true, true, true, true, true, true, true, true, true, true, true, true, true, true, true, false, false, false, false, false, false, false, false, false, false, false, false, false, false, false, false, false, false, false, false, false] rfl rfl (any_of HT_.out kr_) (fun _ _ _ h => h) (Or.inr ⟨by rfl, rfl⟩) ?_ ?_
               rotate_left
               ·simp only [Act.put, sx_, s0_, s1_, i64_w, i32_w]
                rfl
               refine pure_ (i := 15) (N := some 111) (v := undef) (a' := ?_) #[true, true, true, true, true, true, true, true, true, true, true, true, true, true, true, true, false, false, false, false, false, false, false, false, false, false, false, false, false, false, false, false, false, false, false, false] rfl rfl (any_of HT_.out kr_) (fun _ _ _ h => h) (Or.inr ⟨by rfl, rfl⟩) ?_ ?_
               rotate_left
               ·simp only [Act.put, sx_, s0_, s1_, i64_w, i32_w]
                rfl
               refine pure_ (i := 16) (N := some 112) (v := undef) (a' := ?_) #[true, true, true, true, true, true, true, true, true, true, true, true, true, true, true, true, true, false, false, false, false, false, false, false, false, false, false, false, false, false, false, false, false, false, false, false] rfl rfl (any_of HT_.out kr_) (fun _ _ _ h => h) (Or.inr ⟨by rfl, rfl⟩) ?_ ?_
               rotate_left
               ·simp only [Act.put, sx_, s0_, s1_, i64_w, i32_w]
                rfl
               refine pure_ (i := 17) (N := some 113) (v := undef) (a' := ?_) #[true, true, true, true, true, true, true, true, true, true, true, true, true, true, true, true, true, true, false, false, false, false, false, false, false, false, false, false, false, false, false, false, false, false, false, false] rfl rfl (any_of HT_.out kr_) (fun _ _ _ h => h) (Or.inr ⟨by rfl, rfl⟩) ?_ ?_
               rotate_left
               ·simp only [Act.put, sx_, s0_, s1_, i64_w, i32_w]
                rfl
               refine pure_ (i := 18) (N := some 114) (v := undef) (a' := ?_) #[true, true, true, true, true, true, true, true, true, true, true, true, true, true, true, true, true, true, true, false, false, false, false, false, false, false, false, false, false, false, false, false, false, false, false, false] rfl rfl (any_of HT_.out kr_) (fun _ _ _ h => h) (Or.inr ⟨by rfl, rfl⟩) ?_ ?_
               rotate_left
               ·simp only [Act.put, sx_, s0_, s1_, i64_w, i32_w]
                rfl
               refine pure_ (i := 19) (N := some 115) (v := undef) (a' := ?_) #[true, true, true, true, true, true, true, true, true, true, true, true, true, true, true, true, true, true, true, true, false, false, false, false, false, false, false, false, false, false, false, false, false, false, false, false] rfl rfl (any_of HT_.out kr_) (fun _ _ _ h => h) (Or.inr ⟨by rfl, rfl⟩) ?_ ?_
               rotate_left
               ·simp only [Act.put, sx_, s0_, s1_, i64_w, i32_w]
                rfl
               refine pure_ (i := 20) (N := some 116) (v := undef) (a' := ?_) #[true, true, true, true, true, true, true, true, true, true, true, true, true, true, true, true, true, true, true, true, true, false, false, false, false, false, false, false, false, false, false, false, false, false, false, false] rfl rfl (any_of HT_.out kr_) (fun _ _ _ h => h) (Or.inr ⟨by rfl, rfl⟩) ?_ ?_
               rotate_left
               ·simp only [Act.put, sx_, s0_, s1_, i64_w, i32_w]
                rfl
               refine pure_ (i := 21) (N := some 117) (v := undef) (a' := ?_) #[true, true, true, true, true, true, true, true, true, true, true, true, true, true, true, true, true, true, true, true, true, true, false, false, false, false, false, false, false, false, false, false, false, false, false, false] rfl rfl (any_of HT_.out kr_) (fun _ _ _ h => h) (Or.inr ⟨by rfl, rfl⟩) ?_ ?_
               rotate_left
               ·simp only [Act.put, sx_, s0_, s1_, i64_w, i32_w]
                rfl
               refine pure_ (i := 22) (N := some 118) (v := undef) (a' := ?_) #[true, true, true, true, true, true, true, true, true, true, true, true, true, true, true, true, true, true, true, true, true, true, true, false, false, false, false, false, false, false, false, false, false, false, false, false] rfl rfl (any_of HT_.out kr_) (fun _ _ _ h => h) (Or.inr ⟨by rfl, rfl⟩) ?_ ?_
               rotate_left
               ·simp only [Act.put, sx_, s0_, s1_, i64_w, i32_w]
                rfl
               refine pure_ (i := 23) (N := some 119) (v := undef) (a' := ?_) #[true, true, true, true, true, true, true, true, true, true, true, true, true, true, true, true, true, true, true, true, true, true, true, true, false, false, false, false, false, false, false, false, false, false, false, false] rfl rfl (any_of HT_.out kr_) (fun _ _ _ h => h) (Or.inr ⟨by rfl, rfl⟩) ?_ ?_
               rotate_left
               ·simp only [Act.put, sx_, s0_, s1_, i64_w, i32_w]
                rfl
               refine pure_ (i := 24) (N := some 120) (v := undef) (a' := ?_) #[true, true, true, true, true, true, true, true, true, true, true, true, true, true, true, true, true, true, true, true, true, true, true, true, true, false, false, false, false, false, false, false, false, false, false, false] rfl rfl (any_of HT_.out kr_) (fun _ _ _ h => h) (Or.inr ⟨by rfl, rfl⟩) ?_ ?_
               rotate_left
               ·simp only [Act.put, sx_, s0_, s1_, i64_w, i32_w]
                rfl
               refine pure_ (i := 25) (N := some 121) (v := undef) (a' := ?_) #[true, true, true, true, true, true, true, true, true, true, true, true, true, true, true, true, true, true, true, true, true, true, true, true, true, true, false, false, false, false, false, false, false, false, false, false] rfl rfl (any_of HT_.out kr_) (fun _ _ _ h => h) (Or.inr ⟨by rfl, rfl⟩) ?_ ?_
               rotate_left
               ·simp only [Act.put, sx_, s0_, s1_, i64_w, i32_w]
                rfl
               refine pure_ (i := 26) (N := some 122) (v := undef) (a' := ?_) #[true, true, true, true, true, true, true, true, true, true, true, true, true, true, true, true, true, true, true, true, true, true, true, true, true, true, true, false, false, false, false, false, false, false, false, false] rfl rfl (any_of HT_.out kr_) (fun _ _ _ h => h) (Or.inr ⟨by rfl, rfl⟩) ?_ ?_
               rotate_left
               ·simp only [Act.put, sx_, s0_, s1_, i64_w, i32_w]
                rfl
               refine pure_ (i := 27) (N := some 123) (v := undef) (a' := ?_) #[true, true, true, true, true, true, true, true, true, true, true, true, true, true, true, true, true, true, true, true, true, true, true, true, true, true, true, true, false, false, false, false, false, false, false, false] rfl rfl (any_of HT_.out kr_) (fun _ _ _ h => h) (Or.inr ⟨by rfl, rfl⟩) ?_ ?_
               rotate_left
               ·simp only [Act.put, sx_, s0_, s1_, i64_w, i32_w]
                rfl
               refine pure_ (i := 28) (N := some 124) (v := undef) (a' := ?_) #[true, true, true, true, true, true, true, true, true, true, true, true, true, true, true, true, true, true, true, true, true, true, true, true, true, true, true, true, true, false, false, false, false, false, false, false] rfl rfl (any_of HT_.out kr_) (fun _ _ _ h => h) (Or.inr ⟨by rfl, rfl⟩) ?_ ?_
               rotate_left
               ·simp only [Act.put, sx_, s0_, s1_, i64_w, i32_w]
                rfl
               refine pure_ (i := 29) (N := some 125) (v := undef) (a' := ?_) #[true, true, true, true, true, true, true, true, true, true, true, true, true, true, true, true, true, true, true, true, true, true, true, true, true, true, true, true, true, true, false, false, false, false, false, false] rfl rfl (any_of HT_.out kr_) (fun _ _ _ h => h) (Or.inr ⟨by rfl, rfl⟩) ?_ ?_
               rotate_left
               ·simp only [Act.put, sx_, s0_, s1_, i64_w, i32_w]
                rfl
               refine pure_ (i := 30) (N := some 126) (v := undef) (a' := ?_) #[true, true, true, true, true, true, true, true, true, true, true, true, true, true, true, true, true, true, true, true, true, true, true, true, true, true, true, true, true, true, true, false, false, false, false, false] rfl rfl (any_of HT_.out kr_) (fun _ _ _ h => h) (Or.inr ⟨by rfl, rfl⟩) ?_ ?_
               rotate_left
               ·simp only [Act.put, sx_, s0_, s1_, i64_w, i32_w]
                rfl
               refine pure_ (i := 31) (N := some 127) (v := ?_) (a' := ?_) #[true, true, true, true, true, true, true, true, true, true, true, true, true, true, true, true, true, true, true, true, true, true, true, true, true, true, true, true, true, true, true, true, false, false, false, false] rfl rfl (any_of HT_.out kr_) (fun _ _ _ h => h) (Or.inl ⟨by rfl, ?_⟩) ?_ ?_
               rotate_left
               ·intro w'
                go_simp
                with_reducible rfl
               rotate_left
               ·simp only [Act.put, sx_, s0_, s1_, i64_w, i32_w]
                rfl
               refine pure_ (i := 32) (N := some 128) (v := ?_) (a' := ?_) #[true, true, true, true, true, true, true, true, true, true, true, true, true, true, true, true, true, true, true, true, true, true, true, true, true, true, true, true, true, true, true, true, true, false, false, false] rfl rfl (any_of HT_.out kr_) (fun _ _ _ h => h) (Or.inl ⟨by rfl, ?_⟩) ?_ ?_
               rotate_left
               ·intro w'
                go_simp
                with_reducible rfl
               rotate_left
               ·simp only [Act.put, sx_, s0_, s1_, i64_w, i32_w]
                rfl
               refine one_ (i := 33) (N := some 129) #[true, true, true, true, true, true, true, true, true, true, true, true, true, true, true, true, true, true, true, true, true, true, true, true, true, true, true, true, true, true, true, true, true, true, false, false] rfl rfl (one_of HT_.out kr_) (by decide) (fun K hK => ?_)
               refine goes_ Tryz.func14 kr_ rfl #[] (by rfl) rfl rfl rl_ ?_
               with_reducible refine (tolllaw07_awake.calls kj90  t754 _ (gm_ HGL.out (bel_ HB.out)) A120.out).mono ?_
               rintro e w122 ⟨rfl, hb⟩
               refine ⟨_, rfl, ?_⟩
               have n0_ := am_ (Kd.R_below (R_ HO_718003.out) hb)
               have n1_ := am_ (Kd.R_below (R_ HO_718004.out) hb)
               have n2_ := am_ (Kd.V_below (by (with_reducible repeat (first | apply Kd.V_alloc | apply Kd.V_drewN | apply Kd.V_drew)); exact HO_751003.out) hb)
               have n3_ := am_ (Kd.V_below (by (with_reducible repeat (first | apply Kd.V_alloc | apply Kd.V_drewN | apply Kd.V_drew)); exact HO_751004.out) hb)
               have n4_ := am_ (blk_below (g := gb715) (o := .cells #[.int .i64 x716000_3, .string x716001_3, .string x716002_3, .string x716003_3, .int .i64 x716004_3, .string x716005_3, .bool x716006_3, .int .i64 x716007_3] 26 (0, 0)) (blk_ BK715.out) hb)
               have n5_ := am_ (blk_below (g := gb716) (o := .cells #[.int .i64 x717000_3, .string x717001_3] 30 (0, 0)) (blk_ BK716.out) hb)
               have n6_ := am_ (blk_below (g := gb717) (o := .cells #[.string x718000_3, .string x718001_3, .string x718002_3, .slice Ao50 x718003_3.length co50, .slice Ao51 x718004_3.length co51] 33 (0, 0)) (blk_ BK717.out) hb)
               have n7_ := am_ (blk_below (g := gb750) (o := .cells #[.string t740, .string t741, .string t742, .slice Ao58 t743.length co58, .slice Ao59 t746.length co59] 33 (0, 0)) (blk_ BK750.out) hb)
               have n8_ := am_ (below_step (bel_ HB.out) hb)
               clear HO_718003 HO_718004 HO_751003 HO_751004 BK715 BK716 BK717 BK750 HB
               have HO_718003 := n0_
               have HO_718004 := n1_
               have HO_751003 := n2_
               have HO_751004 := n3_
               have BK715 := n4_
               have BK716 := n5_
               have BK717 := n6_
               have BK750 := n7_
               have HB := n8_
               clear n0_ n1_ n2_ n3_ n4_ n5_ n6_ n7_ n8_
               (try clear hb)
               (try clear hb2)
               (try clear hk)
               (try clear hi)
               refine hK.out _ _ ⟨(blk_cell BK715.out 0).trans rfl, (blk_cell BK715.out 1).trans rfl, (blk_cell BK715.out 2).trans rfl, (blk_cell BK715.out 3).trans rfl, (blk_cell BK715.out 4).trans rfl, (blk_cell BK715.out 5).trans rfl, (blk_cell BK715.out 6).trans rfl, (blk_cell BK715.out 7).trans rfl⟩ (fun hHeld => ?_)
               clear hK K
               refine norm_ (a' := ?_) ?_ ?_
               rotate_left
               ·show Act.put _ (some 129) _ = _
                simp only [Act.put, sx_, s0_, s1_, i64_w, i32_w]
                rfl
               refine pure_ (i := 34) (N := some 130) (v := ?_) (a' := ?_) #[true, true, true, true, true, true, true, true, true, true, true, true, true, true, true, true, true, true, true, true, true, true, true, true, true, true, true, true, true, true, true, true, true, true, true, false] rfl rfl (any_of HT_.out kr_) (fun _ _ _ h => h) (Or.inl ⟨by rfl, ?_⟩) ?_ ?_
               rotate_left
               ·intro w'
                go_simp
                with_reducible rfl
               rotate_left
               ·simp only [Act.put, sx_, s0_, s1_, i64_w, i32_w]
                rfl
               refine pure_ (i := 35) (N := some 6) (v := ?_) (a' := ?_) #[true, true, true, true, true, true, true, true, true, true, true, true, true, true, true, true, true, true, true, true, true, true, true, true, true, true, true, true, true, true, true, true, true, true, true, true] rfl rfl (any_of HT_.out kr_) (fun _ _ _ h => h) (Or.inl ⟨by rfl, ?_⟩) ?_ ?_
               rotate_left
               ·intro w'
                go_simp
                with_reducible rfl
               rotate_left
               ·simp only [Act.put, sx_, s0_, s1_, i64_w, i32_w]
                rfl
               refine done_ (done_of HT_.out kr_) ?_
               try go_wp2
               go_ret
               exact ⟨fi_, bel_ HB.out⟩
              ·rw [if_neg c119] at H
               have c119b0 : (x716005_3.toList == ([47] : List UInt8)) = false := beq_eq_false_iff_ne.mpr c119
               have c119b1 : (x716005_3.toList != ([47] : List UInt8)) = true := bne_iff_ne.mpr c119
               by_cases c123 : t742.toList = x716005_3.toList
               ·rw [if_pos c123] at H
                have c123b0 : (t742.toList == x716005_3.toList) = true := beq_iff_eq.mpr c123
                have c123b1 : (t742.toList != x716005_3.toList) = false := bne_eq_false_iff_eq.mpr c123
                clear c123
                replace H := Option.bind_eq_some_iff.mp H
                obtain ⟨t755, A1240, H⟩ := H
                replace H : (some t755) = some r := H
                have A124 := Aside0.mk A1240
                clear A1240
                obtain rfl := Option.some.inj H
                try go_wp2
                have n0_ := am_ (Kd.R_drew HO_718003.out)
                have n1_ := am_ (Kd.R_drew HO_718004.out)
                have n2_ := am_ (Kd.V_drew HO_751003.out)
                have n3_ := am_ (Kd.V_drew HO_751004.out)
                have n4_ := am_ (blk_drew BK715.out)
                have n5_ := am_ (blk_drew BK716.out)
                have n6_ := am_ (blk_drew BK717.out)
                have n7_ := am_ (blk_drew BK750.out)
                have n8_ := am_ (below_drew1 HB.out)
                clear HO_718003 HO_718004 HO_751003 HO_751004 BK715 BK716 BK717 BK750 HB
                have HO_718003 := n0_
                have HO_718004 := n1_
                have HO_751003 := n2_
                have HO_751004 := n3_
                have BK715 := n4_
                have BK716 := n5_
                have BK717 := n6_
                have BK750 := n7_
                have HB := n8_
                clear n0_ n1_ n2_ n3_ n4_ n5_ n6_ n7_ n8_
                refine start_ (n := 36) (S := fun w' => w'.cell? ⟨gb715, 0, none⟩ = some (.int .i64 x716000_3) ∧ w'.cell? ⟨gb715, 1, none⟩ = some (.string x716001_3) ∧ w'.cell? ⟨gb715, 2, none⟩ = some (.string x716002_3) ∧ w'.cell? ⟨gb715, 3, none⟩ = some (.string x716003_3) ∧ w'.cell? ⟨gb715, 4, none⟩ = some (.int .i64 x716004_3) ∧ w'.cell? ⟨gb715, 5, none⟩ = some (.string x716005_3) ∧ w'.cell? ⟨gb715, 6, none⟩ = some (.bool x716006_3) ∧ w'.cell? ⟨gb715, 7, none⟩ = some (.int .i64 x716007_3) ∧ w'.cell? ⟨gb750, 0, none⟩ = some (.string t740) ∧ w'.cell? ⟨gb750, 1, none⟩ = some (.string t741) ∧ w'.cell? ⟨gb750, 2, none⟩ = some (.string t742) ∧ w'.cell? ⟨gb750, 3, none⟩ = some (.slice Ao58 t743.length co58) ∧ w'.cell? ⟨gb750, 4, none⟩ = some (.slice Ao59 t746.length co59)) (ds := []) #[false, false, false, false, false, false, false, false, false, false, false, false, false, false, false, false, false, false, false, false, false, false, false, false, false, false, false, false, false, false, false, false, false, false, false, false] kr_ rfl rfl ⟨(blk_cell BK715.out 0).trans rfl, (blk_cell BK715.out 1).trans rfl, (blk_cell BK715.out 2).trans rfl, (blk_cell BK715.out 3).trans rfl, (blk_cell BK715.out 4).trans rfl, (blk_cell BK715.out 5).trans rfl, (blk_cell BK715.out 6).trans rfl, (blk_cell BK715.out 7).trans rfl, (blk_cell BK750.out 0).trans rfl, (blk_cell BK750.out 1).trans rfl, (blk_cell BK750.out 2).trans rfl, (blk_cell BK750.out 3).trans rfl, (blk_cell BK750.out 4).trans rfl⟩ (fun hHeld => ?_); refine with_tabW tolllaw07_FilterPaths.tab16 tolllaw07_FilterPaths.bits16 (fun HT_ HW_ => ?_)
                generalize wc.drew = w125 at HO_718003 HO_718004 HO_751003 HO_751004 BK715 BK716 BK717 BK750 HB hHeld ⊢
                refine pure_ (i := 0) (N := some 96) (v := ?_) (a' := ?_) #[true, false, false, false, false, false, false, false, false, false, false, false, false, false, false, false, false, false, false, false, false, false, false, false, false, false, false, false, false, false, false, false, false, false, false, false] rfl rfl (any_of HT_.out kr_) (fun _ _ _ h => h) (Or.inl ⟨by rfl, ?_⟩) ?_ ?_
                rotate_left
                ·intro w'
                 go_simp
                 with_reducible rfl
                rotate_left
                ·simp only [Act.put, sx_, s0_, s1_, i64_w, i32_w]
                 rfl
                refine take_ (i := 1) (N := some 97) (v := ?_) (a' := ?_) #[true, true, false, false, false, false, false, false, false, false, false, false, false, false, false, false, false, false, false, false, false, false, false, false, false, false, false, false, false, false, false, false, false, false, false, false] rfl rfl (take_ofW HT_.out HW_.out kr_) (fun _ _ _ h => h) (Or.inl ⟨by rfl, ?_⟩) hHeld ?_ ?_
                rotate_left
                ·rintro w' ⟨s0, s1, s2, s3, s4, s5, s6, s7, s8, s9, s10, s11, s12⟩
                 go_simp
                 with_reducible rfl
                rotate_left
                ·simp only [Act.put, sx_, s0_, s1_, i64_w, i32_w]
                 rfl
                refine pure_ (i := 2) (N := some 98) (v := ?_) (a' := ?_) #[true, true, true, false, false, false, false, false, false, false, false, false, false, false, false, false, false, false, false, false, false, false, false, false, false, false, false, false, false, false, false, false, false, false, false, false] rfl rfl (any_of HT_.out kr_) (fun _ _ _ h => h) (Or.inl ⟨by rfl, ?_⟩) ?_ ?_
                rotate_left
                ·intro w'
                 go_simp
                 with_reducible rfl
                rotate_left
                ·simp only [Act.put, sx_, s0_, s1_, i64_w, i32_w]
                 rfl
                refine pure_ (i := 3) (N := some 99) (v := ?_) (a' := ?_) #[true, true, true, true, false, false, false, false, false, false, false, false, false, false, false, false, false, false, false, false, false, false, false, false, false, false, false, false, false, false, false, false, false, false, false, false] rfl rfl (any_of HT_.out kr_) (fun _ _ _ h => h) (Or.inl ⟨by rfl, ?_⟩) ?_ ?_
                rotate_left
                ·intro w'
                 go_simp
                 with_reducible rfl
                rotate_left
                ·simp only [Act.put, sx_, s0_, s1_, i64_w, i32_w]
                 rfl
                refine pure_ (i := 4) (N := some 100) (v := ?_) (a' := ?_) #[true, true, true, true, true, false, false, false, false, false, false, false, false, false, false, false, false, false, false, false, false, false, false, false, false, false, false, false, false, false, false, false, false, false, false, false] rfl rfl (any_of HT_.out kr_) (fun _ _ _ h => h) (Or.inl ⟨by rfl, ?_⟩) ?_ ?_
                rotate_left
                ·intro w'
                 go_simp
                 with_reducible rfl
                rotate_left
                ·simp only [Act.put, sx_, s0_, s1_, i64_w, i32_w]
                 rfl
                refine pure_ (i := 6) (N := some 102) (v := ?_) (a' := ?_) #[true, true, true, true, true, false, true, false, false, false, false, false, false, false, false, false, false, false, false, false, false, false, false, false, false, false, false, false, false, false, false, false, false, false, false, false] rfl rfl (any_of HT_.out kr_) (fun _ _ _ h => h) (Or.inl ⟨by rfl, ?_⟩) ?_ ?_
                rotate_left
                ·intro w'
                 go_simp
                 with_reducible rfl
                rotate_left
                ·simp only [Act.put, sx_, s0_, s1_, i64_w, i32_w]
                 rfl
                refine take_ (i := 5) (N := some 101) (v := ?_) (a' := ?_) #[true, true, true, true, true, true, true, false, false, false, false, false, false, false, false, false, false, false, false, false, false, false, false, false, false, false, false, false, false, false, false, false, false, false, false, false] rfl rfl (take_ofW HT_.out HW_.out kr_) (fun _ _ _ h => h) (Or.inl ⟨by rfl, ?_⟩) hHeld ?_ ?_
                rotate_left
                ·rintro w' ⟨s0, s1, s2, s3, s4, s5, s6, s7, s8, s9, s10, s11, s12⟩
                 go_simp
                 with_reducible rfl
                rotate_left
                ·simp only [Act.put, sx_, s0_, s1_, i64_w, i32_w]
                 rfl
                refine take_ (i := 7) (N := some 103) (v := ?_) (a' := ?_) #[true, true, true, true, true, true, true, true, false, false, false, false, false, false, false, false, false, false, false, false, false, false, false, false, false, false, false, false, false, false, false, false, false, false, false, false] rfl rfl (take_ofW HT_.out HW_.out kr_) (fun _ _ _ h => h) (Or.inl ⟨by rfl, ?_⟩) hHeld ?_ ?_
                rotate_left
                ·rintro w' ⟨s0, s1, s2, s3, s4, s5, s6, s7, s8, s9, s10, s11, s12⟩
                 go_simp
                 with_reducible rfl
                rotate_left
                ·simp only [Act.put, sx_, s0_, s1_, i64_w, i32_w]
                 rfl
                refine pure_ (i := 8) (N := some 104) (v := ?_) (a' := ?_) #[true, true, true, true, true, true, true, true, true, false, false, false, false, false, false, false, false, false, false, false, false, false, false, false, false, false, false, false, false, false, false, false, false, false, false, false] rfl rfl (any_of HT_.out kr_) (fun _ _ _ h => h) (Or.inl ⟨by rfl, ?_⟩) ?_ ?_
                rotate_left
                ·intro w'
                 go_simp
                 with_reducible rfl
                rotate_left
                ·simp only [Act.put, sx_, s0_, s1_, i64_w, i32_w]
                 rfl
                refine pure_ (i := 9) (N := some 105) (v := ?_) (a' := ?_) #[true, true, true, true, true, true, true, true, true, true, false, false, false, false, false, false, false, false, false, false, false, false, false, false, false, false, false, false, false, false, false, false, false, false, false, false] rfl rfl (any_of HT_.out kr_) (fun _ _ _ h => h) (Or.inl ⟨by rfl, ?_⟩) ?_ ?_
                rotate_left
                ·intro w'
                 go_simp
                 with_reducible rfl
                rotate_left
                ·simp only [Act.put, sx_, s0_, s1_, i64_w, i32_w]
                 rfl
                refine pure_ (i := 10) (N := some 106) (v := ?_) (a' := ?_) #[true, true, true, true, true, true, true, true, true, true, true, false, false, false, false, false, false, false, false, false, false, false, false, false, false, false, false, false, false, false, false, false, false, false, false, false] rfl rfl (any_of HT_.out kr_) (fun _ _ _ h => h) (Or.inl ⟨by rfl, ?_⟩) ?_ ?_
                rotate_left
                ·intro w'
                 go_simp
                 with_reducible rfl
                rotate_left
                ·simp only [Act.put, sx_, s0_, s1_, i64_w, i32_w]
                 rfl
                refine pure_ (i := 11) (N := some 107) (v := undef) (a' := ?_) #[true, true, true, true, true, true, true, true, true, true, true, true, false, false, false, false, false, false, false, false, false, false, false, false, false, false, false, false, false, false, false, false, false, false, false, false] rfl rfl (any_of HT_.out kr_) (fun _ _ _ h => h) (Or.inr ⟨by rfl, rfl⟩) ?_ ?_
                rotate_left
                ·simp only [Act.put, sx_, s0_, s1_, i64_w, i32_w]
                 rfl
                refine pure_ (i := 12) (N := some 108) (v := undef) (a' := ?_) #[true, true, true, true, true, true, true, true, true, true, true, true, true, false, false, false, false, false, false, false, false, false, false, false, false, false, false, false, false, false, false, false, false, false, false, false] rfl rfl (any_of HT_.out kr_) (fun _ _ _ h => h) (Or.inr ⟨by rfl, rfl⟩) ?_ ?_
                rotate_left
                ·simp only [Act.put, sx_, s0_, s1_, i64_w, i32_w]
                 rfl
                refine pure_ (i := 13) (N := some 109) (v := undef) (a' := ?_) #[true, true, true, true, true, true, true, true, true, true, true, true, true, true, false, false, false, false, false, false, false, false, false, false, false, false, false, false, false, false, false, false, false, false, false, false] rfl rfl (any_of HT_.out kr_) (fun _ _ _ h => h) (Or.inr ⟨by rfl, rfl⟩) ?_ ?_
                rotate_left
                ·simp only [Act.put, sx_, s0_, s1_, i64_w, i32_w]
                 rfl
                refine pure_ (i := 14) (N := some 110) (v := undef) (a' := ?_) #[true, true, true, true, true, true, true, true, true, true, true, true, true, true, true, false, false, false, false, false, false, false, false, false, false, false, false, false, false, false, false, false, false, false, false, false] rfl rfl (any_of HT_.out kr_) (fun _ _ _ h => h) (Or.inr ⟨by rfl, rfl⟩) ?_ ?_
                rotate_left
                ·simp only [Act.put, sx_, s0_, s1_, i64_w, i32_w]
                 rfl
                refine pure_ (i := 15) (N := some 111) (v := undef) (a' := ?_) #[true, true, true, true, true, true, true, true, true, true, true, true, true, true, true, true, false, false, false, false, false, false, false, false, false, false, false, false, false, false, false, false, false, false, false, false] rfl rfl (any_of HT_.out kr_) (fun _ _ _ h => h) (Or.inr ⟨by rfl, rfl⟩) ?_ ?_
                rotate_left
                ·simp only [Act.put, sx_, s0_, s1_, i64_w, i32_w]
                 rfl
                refine pure_ (i := 16) (N := some 112) (v := undef) (a' := ?_) #[true, true, true, true, true, true, true, true, true, true, true, true, true, true, true, true, true, false, false, false, false, false, false, false, false, false, false, false, false, false, false, false, false, false, false, false] rfl rfl (any_of HT_.out kr_) (fun _ _ _ h => h) (Or.inr ⟨by rfl, rfl⟩) ?_ ?_
                rotate_left
                ·simp only [Act.put, sx_, s0_, s1_, i64_w, i32_w]
                 rfl
                refine pure_ (i := 17) (N := some 113) (v := undef) (a' := ?_) #[true, true, true, true, true, true, true, true, true, true, true, true, true, true, true, true, true, true, false, false, false, false, false, false, false, false, false, false, false, false, false, false, false, false, false, false] rfl rfl (any_of HT_.out kr_) (fun _ _ _ h => h) (Or.inr ⟨by rfl, rfl⟩) ?_ ?_
                rotate_left
                ·simp only [Act.put, sx_, s0_, s1_, i64_w, i32_w]
                 rfl
                refine pure_ (i := 18) (N := some 114) (v := undef) (a' := ?_) #[true, true, true, true, true, true, true, true, true, true, true, true, true, true, true, true, true, true, true, false, false, false, false, false, false, false, false, false, false, false, false, false, false, false, false, false] rfl rfl (any_of HT_.out kr_) (fun _ _ _ h => h) (Or.inr ⟨by rfl, rfl⟩) ?_ ?_
                rotate_left
                ·simp only [Act.put, sx_, s0_, s1_, i64_w, i32_w]
                 rfl
                refine pure_ (i := 19) (N := some 115) (v := undef) (a' := ?_) #[true, true, true, true, true, true, true, true, true, true, true, true, true, true, true, true, true, true, true, true, false, false, false, false, false, false, false, false, false, false, false, false, false, false, false, false] rfl rfl (any_of HT_.out kr_) (fun _ _ _ h => h) (Or.inr ⟨by rfl, rfl⟩) ?_ ?_
                rotate_left
                ·simp only [Act.put, sx_, s0_, s1_, i64_w, i32_w]
                 rfl
                refine pure_ (i := 20) (N := some 116) (v := undef) (a' := ?_) #[true, true, true, true, true, true, true, true, true, true, true, true, true, true, true, true, true, true, true, true, true, false, false, false, false, false, false, false, false, false, false, false, false, false, false, false] rfl rfl (any_of HT_.out kr_) (fun _ _ _ h => h) (Or.inr ⟨by rfl, rfl⟩) ?_ ?_
                rotate_left
                ·simp only [Act.put, sx_, s0_, s1_, i64_w, i32_w]
                 rfl
                refine pure_ (i := 21) (N := some 117) (v := undef) (a' := ?_) #[true, true, true, true, true, true, true, true, true, true, true, true, true, true, true, true, true, true, true, true, true, true, false, false, false, false, false, false, false, false, false, false, false, false, false, false] rfl rfl (any_of HT_.out kr_) (fun _ _ _ h => h) (Or.inr ⟨by rfl, rfl⟩) ?_ ?_
                rotate_left
                ·simp only [Act.put, sx_, s0_, s1_, i64_w, i32_w]
                 rfl
                refine pure_ (i := 22) (N := some 118) (v := undef) (a' := ?_) #[true, true, true, true, true, true, true, true, true, true, true, true, true, true, true, true, true, true, true, true, true, true, true, false, false, false, false, false, false, false, false, false, false, false, false, false] rfl rfl (any_of HT_.out kr_) (fun _ _ _ h => h) (Or.inr ⟨by rfl, rfl⟩) ?_ ?_
                rotate_left
                ·simp only [Act.put, sx_, s0_, s1_, i64_w, i32_w]
                 rfl
                refine pure_ (i := 23) (N := some 119) (v := undef) (a' := ?_) #[true, true, true, true, true, true, true, true, true, true, true, true, true, true, true, true, true, true, true, true, true, true, true, true, false, false, false, false, false, false, false, false, false, false, false, false] rfl rfl (any_of HT_.out kr_) (fun _ _ _ h => h) (Or.inr ⟨by rfl, rfl⟩) ?_ ?_
                rotate_left
                ·simp only [Act.put, sx_, s0_, s1_, i64_w, i32_w]
                 rfl
                refine pure_ (i := 24) (N := some 120) (v := undef) (a' := ?_) #[true, true, true, true, true, true, true, true, true, true, true, true, true, true, true, true, true, true, true, true, true, true, true, true, true, false, false, false, false, false, false, false, false, false, false, false] rfl rfl (any_of HT_.out kr_) (fun _ _ _ h => h) (Or.inr ⟨by rfl, rfl⟩) ?_ ?_
                rotate_left
                ·simp only [Act.put, sx_, s0_, s1_, i64_w, i32_w]
                 rfl
                refine pure_ (i := 25) (N := some 121) (v := undef) (a' := ?_) #[true, true, true, true, true, true, true, true, true, true, true, true, true, true, true, true, true, true, true, true, true, true, true, true, true, true, false, false, false, false, false, false, false, false, false, false] rfl rfl (any_of HT_.out kr_) (fun _ _ _ h => h) (Or.inr ⟨by rfl, rfl⟩) ?_ ?_
                rotate_left
                ·simp only [Act.put, sx_, s0_, s1_, i64_w, i32_w]
                 rfl
                refine pure_ (i := 26) (N := some 122) (v := undef) (a' := ?_) #[true, true, true, true, true, true, true, true, true, true, true, true, true, true, true, true, true, true, true, true, true, true, true, true, true, true, true, false, false, false, false, false, false, false, false, false] rfl rfl (any_of HT_.out kr_) (fun _ _ _ h => h) (Or.inr ⟨by rfl, rfl⟩) ?_ ?_
                rotate_left
                ·simp only [Act.put, sx_, s0_, s1_, i64_w, i32_w]
                 rfl
                refine pure_ (i := 27) (N := some 123) (v := undef) (a' := ?_) #[true, true, true, true, true, true, true, true, true, true, true, true, true, true, true, true, true, true, true, true, true, true, true, true, true, true, true, true, false, false, false, false, false, false, false, false] rfl rfl (any_of HT_.out kr_) (fun _ _ _ h => h) (Or.inr ⟨by rfl, rfl⟩) ?_ ?_
                rotate_left
                ·simp only [Act.put, sx_, s0_, s1_, i64_w, i32_w]
                 rfl
                refine pure_ (i := 28) (N := some 124) (v := undef) (a' := ?_) #[true, true, true, true, true, true, true, true, true, true, true, true, true, true, true, true, true, true, true, true, true, true, true, true, true, true, true, true, true, false, false, false, false, false, false, false] rfl rfl (any_of HT_.out kr_) (fun _ _ _ h => h) (Or.inr ⟨by rfl, rfl⟩) ?_ ?_
                rotate_left
                ·simp only [Act.put, sx_, s0_, s1_, i64_w, i32_w]
                 rfl
                refine pure_ (i := 29) (N := some 125) (v := undef) (a' := ?_) #[true, true, true, true, true, true, true, true, true, true, true, true, true, true, true, true, true, true, true, true, true, true, true, true, true, true, true, true, true, true, false, false, false, false, false, false] rfl rfl (any_of HT_.out kr_) (fun _ _ _ h => h) (Or.inr ⟨by rfl, rfl⟩) ?_ ?_
                rotate_left
                ·simp only [Act.put, sx_, s0_, s1_, i64_w, i32_w]
                 rfl
                refine pure_ (i := 30) (N := some 126) (v := undef) (a' := ?_) #[true, true, true, true, true, true, true, true, true, true, true, true, true, true, true, true, true, true, true, true, true, true, true, true, true, true, true, true, true, true, true, false, false, false, false, false] rfl rfl (any_of HT_.out kr_) (fun _ _ _ h => h) (Or.inr ⟨by rfl, rfl⟩) ?_ ?_
                rotate_left
                ·simp only [Act.put, sx_, s0_, s1_, i64_w, i32_w]
                 rfl
                refine pure_ (i := 31) (N := some 127) (v := ?_) (a' := ?_) #[true, true, true, true, true, true, true, true, true, true, true, true, true, true, true, true, true, true, true, true, true, true, true, true, true, true, true, true, true, true, true, true, false, false, false, false] rfl rfl (any_of HT_.out kr_) (fun _ _ _ h => h) (Or.inl ⟨by rfl, ?_⟩) ?_ ?_
                rotate_left
                ·intro w'
                 go_simp
                 with_reducible rfl
                rotate_left
                ·simp only [Act.put, sx_, s0_, s1_, i64_w, i32_w]
                 rfl
                refine pure_ (i := 32) (N := some 128) (v := ?_) (a' := ?_) #[true, true, true, true, true, true, true, true, true, true, true, true, true, true, true, true, true, true, true, true, true, true, true, true, true, true, true, true, true, true, true, true, true, false, false, false] rfl rfl (any_of HT_.out kr_) (fun _ _ _ h => h) (Or.inl ⟨by rfl, ?_⟩) ?_ ?_
                rotate_left
                ·intro w'
                 go_simp
                 with_reducible rfl
                rotate_left
                ·simp only [Act.put, sx_, s0_, s1_, i64_w, i32_w]
                 rfl
                refine one_ (i := 33) (N := some 129) #[true, true, true, true, true, true, true, true, true, true, true, true, true, true, true, true, true, true, true, true, true, true, true, true, true, true, true, true, true, true, true, true, true, true, false, false] rfl rfl (one_of HT_.out kr_) (by decide) (fun K hK => ?_)
                refine goes_ Tryz.func14 kr_ rfl #[] (by rfl) rfl rfl rl_ ?_
                with_reducible refine (tolllaw07_awake.calls kj90  t755 _ (gm_ HGL.out (bel_ HB.out)) A124.out).mono ?_
                rintro e w126 ⟨rfl, hb⟩
                refine ⟨_, rfl, ?_⟩
                have n0_ := am_ (Kd.R_below (R_ HO_718003.out) hb)
                have n1_ := am_ (Kd.R_below (R_ HO_718004.out) hb)
                have n2_ := am_ (Kd.V_below (by (with_reducible repeat (first | apply Kd.V_alloc | apply Kd.V_drewN | apply Kd.V_drew)); exact HO_751003.out) hb)
                have n3_ := am_ (Kd.V_below (by (with_reducible repeat (first | apply Kd.V_alloc | apply Kd.V_drewN | apply Kd.V_drew)); exact HO_751004.out) hb)
                have n4_ := am_ (blk_below (g := gb715) (o := .cells #[.int .i64 x716000_3, .string x716001_3, .string x716002_3, .string x716003_3, .int .i64 x716004_3, .string x716005_3, .bool x716006_3, .int .i64 x716007_3] 26 (0, 0)) (blk_ BK715.out) hb)
                have n5_ := am_ (blk_below (g := gb716) (o := .cells #[.int .i64 x717000_3, .string x717001_3] 30 (0, 0)) (blk_ BK716.out) hb)
                have n6_ := am_ (blk_below (g := gb717) (o := .cells #[.string x718000_3, .string x718001_3, .string x718002_3, .slice Ao50 x718003_3.length co50, .slice Ao51 x718004_3.length co51] 33 (0, 0)) (blk_ BK717.out) hb)
                have n7_ := am_ (blk_below (g := gb750) (o := .cells #[.string t740, .string t741, .string t742, .slice Ao58 t743.length co58, .slice Ao59 t746.length co59] 33 (0, 0)) (blk_ BK750.out) hb)
                have n8_ := am_ (below_step (bel_ HB.out) hb)
                clear HO_718003 HO_718004 HO_751003 HO_751004 BK715 BK716 BK717 BK750 HB
                have HO_718003 := n0_
                have HO_718004 := n1_
                have HO_751003 := n2_
                have HO_751004 := n3_
                have BK715 := n4_
                have BK716 := n5_
                have BK717 := n6_
                have BK750 := n7_
                have HB := n8_
                clear n0_ n1_ n2_ n3_ n4_ n5_ n6_ n7_ n8_
                (try clear hb)
                (try clear hb2)
                (try clear hk)
                (try clear hi)
                refine hK.out _ _ ⟨(blk_cell BK715.out 0).trans rfl, (blk_cell BK715.out 1).trans rfl, (blk_cell BK715.out 2).trans rfl, (blk_cell BK715.out 3).trans rfl, (blk_cell BK715.out 4).trans rfl, (blk_cell BK715.out 5).trans rfl, (blk_cell BK715.out 6).trans rfl, (blk_cell BK715.out 7).trans rfl, (blk_cell BK750.out 0).trans rfl, (blk_cell BK750.out 1).trans rfl, (blk_cell BK750.out 2).trans rfl, (blk_cell BK750.out 3).trans rfl, (blk_cell BK750.out 4).trans rfl⟩ (fun hHeld => ?_)
                clear hK K
                refine norm_ (a' := ?_) ?_ ?_
                rotate_left
                ·show Act.put _ (some 129) _ = _
                 simp only [Act.put, sx_, s0_, s1_, i64_w, i32_w]
                 rfl
                refine pure_ (i := 34) (N := some 130) (v := ?_) (a' := ?_) #[true, true, true, true, true, true, true, true, true, true, true, true, true, true, true, true, true, true, true, true, true, true, true, true, true, true, true, true, true, true, true, true, true, true, true, false] rfl rfl (any_of HT_.out kr_) (fun _ _ _ h => h) (Or.inl ⟨by rfl, ?_⟩) ?_ ?_
                rotate_left
                ·intro w'
                 go_simp
                 with_reducible rfl
                rotate_left
                ·simp only [Act.put, sx_, s0_, s1_, i64_w, i32_w]
                 rfl
                refine pure_ (i := 35) (N := some 6) (v := ?_) (a' := ?_) #[true, true, true, true, true, true, true, true, true, true, true, true, true, true, true, true, true, true, true, true, true, true, true, true, true, true, true, true, true, true, true, true, true, true, true, true] rfl rfl (any_of HT_.out kr_) (fun _ _ _ h => h) (Or.inl ⟨by rfl, ?_⟩) ?_ ?_
                rotate_left
                ·intro w'
                 go_simp
                 with_reducible rfl
                rotate_left
                ·simp only [Act.put, sx_, s0_, s1_, i64_w, i32_w]
                 rfl
                refine done_ (done_of HT_.out kr_) ?_
                try go_wp2
                go_ret
                exact ⟨fi_, bel_ HB.out⟩
               ·rw [if_neg c123] at H
                have c123b0 : (t742.toList == x716005_3.toList) = false := beq_eq_false_iff_ne.mpr c123
                have c123b1 : (t742.toList != x716005_3.toList) = true := bne_iff_ne.mpr c123
                by_cases c127 : (t742.size : Int) > (x716005_3.size : Int)
                ·rw [if_pos c127] at H
                 have c127b0 : decide ((x716005_3.size : Int) < (t742.size : Int)) = true := decide_eq_true c127
                 have c127b1 : decide (x716005_3.size < t742.size) = true := decide_eq_true (Int.ofNat_lt.mp c127)
                 clear c127
                 obtain ⟨ji128, hji128⟩ : ∃ j_ : Int, (wrap64 ((x716005_3.size : Int) + 1)) = j_ := ⟨_, rfl⟩
                 replace H : (if 0 ≤ (ji128) then (if (ji128) ≤ (t742.size : Int) then (if x716005_3.size + 1 ≤ 9223372036854775807 then (if (t742.extract 0 ((ji128) : Int).toNat).toList = (x716005_3 ++ (⟨#[47]⟩ : ByteArray)).toList then ((tolllaw07_awake.f kj90).bind fun t756 => (some t756)) else (none)) else (none)) else (none)) else (none)) = some r := by first | (rw [hji128] at H; exact H) | (simp only [hji128] at H ⊢; exact H)
                 have hji128w : (IntKind.i64.wrap ((x716005_3.size : Int) + 1)) = ji128 := (i64_w _).trans hji128
                 by_cases c129 : 0 ≤ (ji128)
                 ·rw [if_pos c129] at H
                  have c129b0 := eq_true c129
                  have c129b1 : decide (0 ≤ (ji128)) = true := decide_eq_true c129
                  clear c129
                  by_cases c130 : (ji128) ≤ (t742.size : Int)
                  ·rw [if_pos c130] at H
                   have c130b0 := eq_true c130
                   have c130b1 : decide ((ji128) ≤ (t742.size : Int)) = true := decide_eq_true c130
                   clear c130
                   by_cases c131 : x716005_3.size + 1 ≤ 9223372036854775807
                   ·rw [if_pos c131] at H
                    have c131b0 := eq_true c131
                    have c131b1 : decide (x716005_3.size + 1 ≤ 9223372036854775807) = true := decide_eq_true c131
                    try have c131b2 : (9223372036854775807 < x716005_3.size + 1) = False := eq_false (Nat.not_lt.2 c131)
                    by_cases c132 : (t742.extract 0 ((ji128) : Int).toNat).toList = (x716005_3 ++ (⟨#[47]⟩ : ByteArray)).toList
                    ·rw [if_pos c132] at H
                     have c132b0 : ((t742.extract 0 ((ji128) : Int).toNat).toList == (x716005_3 ++ (⟨#[47]⟩ : ByteArray)).toList) = true := beq_iff_eq.mpr c132
                     have c132b1 : ((t742.extract 0 ((ji128) : Int).toNat).toList != (x716005_3 ++ (⟨#[47]⟩ : ByteArray)).toList) = false := bne_eq_false_iff_eq.mpr c132
                     clear c132
                     replace H := Option.bind_eq_some_iff.mp H
                     obtain ⟨t756, A1330, H⟩ := H
                     replace H : (some t756) = some r := H
                     have A133 := Aside0.mk A1330
                     clear A1330
                     obtain rfl := Option.some.inj H
                     try go_wp2
                     have n0_ := am_ (Kd.R_drew HO_718003.out)
                     have n1_ := am_ (Kd.R_drew HO_718004.out)
                     have n2_ := am_ (Kd.V_drew HO_751003.out)
                     have n3_ := am_ (Kd.V_drew HO_751004.out)
                     have n4_ := am_ (blk_drew BK715.out)
                     have n5_ := am_ (blk_drew BK716.out)
                     have n6_ := am_ (blk_drew BK717.out)
                     have n7_ := am_ (blk_drew BK750.out)
                     have n8_ := am_ (below_drew1 HB.out)
                     clear HO_718003 HO_718004 HO_751003 HO_751004 BK715 BK716 BK717 BK750 HB
                     have HO_718003 := n0_
                     have HO_718004 := n1_
                     have HO_751003 := n2_
                     have HO_751004 := n3_
                     have BK715 := n4_
                     have BK716 := n5_
                     have BK717 := n6_
                     have BK750 := n7_
                     have HB := n8_
                     clear n0_ n1_ n2_ n3_ n4_ n5_ n6_ n7_ n8_
                     refine start_ (n := 36) (S := fun w' => w'.cell? ⟨gb715, 0, none⟩ = some (.int .i64 x716000_3) ∧ w'.cell? ⟨gb715, 1, none⟩ = some (.string x716001_3) ∧ w'.cell? ⟨gb715, 2, none⟩ = some (.string x716002_3) ∧ w'.cell? ⟨gb715, 3, none⟩ = some (.string x716003_3) ∧ w'.cell? ⟨gb715, 4, none⟩ = some (.int .i64 x716004_3) ∧ w'.cell? ⟨gb715, 5, none⟩ = some (.string x716005_3) ∧ w'.cell? ⟨gb715, 6, none⟩ = some (.bool x716006_3) ∧ w'.cell? ⟨gb715, 7, none⟩ = some (.int .i64 x716007_3) ∧ w'.cell? ⟨gb750, 0, none⟩ = some (.string t740) ∧ w'.cell? ⟨gb750, 1, none⟩ = some (.string t741) ∧ w'.cell? ⟨gb750, 2, none⟩ = some (.string t742) ∧ w'.cell? ⟨gb750, 3, none⟩ = some (.slice Ao58 t743.length co58) ∧ w'.cell? ⟨gb750, 4, none⟩ = some (.slice Ao59 t746.length co59)) (ds := []) #[false, false, false, false, false, false, false, false, false, false, false, false, false, false, false, false, false, false, false, false, false, false, false, false, false, false, false, false, false, false, false, false, false, false, false, false] kr_ rfl rfl ⟨(blk_cell BK715.out 0).trans rfl, (blk_cell BK715.out 1).trans rfl, (blk_cell BK715.out 2).trans rfl, (blk_cell BK715.out 3).trans rfl, (blk_cell BK715.out 4).trans rfl, (blk_cell BK715.out 5).trans rfl, (blk_cell BK715.out 6).trans rfl, (blk_cell BK715.out 7).trans rfl, (blk_cell BK750.out 0).trans rfl, (blk_cell BK750.out 1).trans rfl, (blk_cell BK750.out 2).trans rfl, (blk_cell BK750.out 3).trans rfl, (blk_cell BK750.out 4).trans rfl⟩ (fun hHeld => ?_); refine with_tabW tolllaw07_FilterPaths.tab16 tolllaw07_FilterPaths.bits16 (fun HT_ HW_ => ?_)
                     generalize wc.drew = w134 at HO_718003 HO_718004 HO_751003 HO_751004 BK715 BK716 BK717 BK750 HB hHeld ⊢
                     refine pure_ (i := 0) (N := some 96) (v := ?_) (a' := ?_) #[true, false, false, false, false, false, false, false, false, false, false, false, false, false, false, false, false, false, false, false, false, false, false, false, false, false, false, false, false, false, false, false, false, false, false, false] rfl rfl (any_of HT_.out kr_) (fun _ _ _ h => h) (Or.inl ⟨by rfl, ?_⟩) ?_ ?_
                     rotate_left
                     ·intro w'
                      go_simp
                      with_reducible rfl
                     rotate_left
                     ·simp only [Act.put, sx_, s0_, s1_, i64_w, i32_w]
                      rfl
                     refine take_ (i := 1) (N := some 97) (v := ?_) (a' := ?_) #[true, true, false, false, false, false, false, false, false, false, false, false, false, false, false, false, false, false, false, false, false, false, false, false, false, false, false, false, false, false, false, false, false, false, false, false] rfl rfl (take_ofW HT_.out HW_.out kr_) (fun _ _ _ h => h) (Or.inl ⟨by rfl, ?_⟩) hHeld ?_ ?_
                     rotate_left
                     ·rintro w' ⟨s0, s1, s2, s3, s4, s5, s6, s7, s8, s9, s10, s11, s12⟩
                      go_simp
                      with_reducible rfl
                     rotate_left
                     ·simp only [Act.put, sx_, s0_, s1_, i64_w, i32_w]
                      rfl
                     refine pure_ (i := 2) (N := some 98) (v := ?_) (a' := ?_) #[true, true, true, false, false, false, false, false, false, false, false, false, false, false, false, false, false, false, false, false, false, false, false, false, false, false, false, false, false, false, false, false, false, false, false, false] rfl rfl (any_of HT_.out kr_) (fun _ _ _ h => h) (Or.inl ⟨by rfl, ?_⟩) ?_ ?_
                     rotate_left
                     ·intro w'
                      go_simp
                      with_reducible rfl
                     rotate_left
                     ·simp only [Act.put, sx_, s0_, s1_, i64_w, i32_w]
                      rfl
                     refine pure_ (i := 3) (N := some 99) (v := ?_) (a' := ?_) #[true, true, true, true, false, false, false, false, false, false, false, false, false, false, false, false, false, false, false, false, false, false, false, false, false, false, false, false, false, false, false, false, false, false, false, false] rfl rfl (any_of HT_.out kr_) (fun _ _ _ h => h) (Or.inl ⟨by rfl, ?_⟩) ?_ ?_
                     rotate_left
                     ·intro w'
                      go_simp
                      with_reducible rfl
                     rotate_left
                     ·simp only [Act.put, sx_, s0_, s1_, i64_w, i32_w]
                      rfl
                     refine pure_ (i := 4) (N := some 100) (v := ?_) (a' := ?_) #[true, true, true, true, true, false, false, false, false, false, false, false, false, false, false, false, false, false, false, false, false, false, false, false, false, false, false, false, false, false, false, false, false, false, false, false] rfl rfl (any_of HT_.out kr_) (fun _ _ _ h => h) (Or.inl ⟨by rfl, ?_⟩) ?_ ?_
                     rotate_left
                     ·intro w'
                      go_simp
                      with_reducible rfl
                     rotate_left
                     ·simp only [Act.put, sx_, s0_, s1_, i64_w, i32_w]
                      rfl
                     refine pure_ (i := 6) (N := some 102) (v := ?_) (a' := ?_) #[true, true, true, true, true, false, true, false, false, false, false, false, false, false, false, false, false, false, false, false, false, false, false, false, false, false, false, false, false, false, false, false, false, false, false, false] rfl rfl (any_of HT_.out kr_) (fun _ _ _ h => h) (Or.inl ⟨by rfl, ?_⟩) ?_ ?_
                     rotate_left
                     ·intro w'
                      go_simp
                      with_reducible rfl
                     rotate_left
                     ·simp only [Act.put, sx_, s0_, s1_, i64_w, i32_w]
                      rfl
                     refine take_ (i := 5) (N := some 101) (v := ?_) (a' := ?_) #[true, true, true, true, true, true, true, false, false, false, false, false, false, false, false, false, false, false, false, false, false, false, false, false, false, false, false, false, false, false, false, false, false, false, false, false] rfl rfl (take_ofW HT_.out HW_.out kr_) (fun _ _ _ h => h) (Or.inl ⟨by rfl, ?_⟩) hHeld ?_ ?_
                     rotate_left
                     ·rintro w' ⟨s0, s1, s2, s3, s4, s5, s6, s7, s8, s9, s10, s11, s12⟩
                      go_simp
                      with_reducible rfl
                     rotate_left
                     ·simp only [Act.put, sx_, s0_, s1_, i64_w, i32_w]
                      rfl
                     refine take_ (i := 7) (N := some 103) (v := ?_) (a' := ?_) #[true, true, true, true, true, true, true, true, false, false, false, false, false, false, false, false, false, false, false, false, false, false, false, false, false, false, false, false, false, false, false, false, false, false, false, false] rfl rfl (take_ofW HT_.out HW_.out kr_) (fun _ _ _ h => h) (Or.inl ⟨by rfl, ?_⟩) hHeld ?_ ?_
                     rotate_left
                     ·rintro w' ⟨s0, s1, s2, s3, s4, s5, s6, s7, s8, s9, s10, s11, s12⟩
                      go_simp
                      with_reducible rfl
                     rotate_left
                     ·simp only [Act.put, sx_, s0_, s1_, i64_w, i32_w]
                      rfl
                     refine pure_ (i := 8) (N := some 104) (v := ?_) (a' := ?_) #[true, true, true, true, true, true, true, true, true, false, false, false, false, false, false, false, false, false, false, false, false, false, false, false, false, false, false, false, false, false, false, false, false, false, false, false] rfl rfl (any_of HT_.out kr_) (fun _ _ _ h => h) (Or.inl ⟨by rfl, ?_⟩) ?_ ?_
                     rotate_left
                     ·intro w'
                      go_simp
                      with_reducible rfl
                     rotate_left
                     ·simp only [Act.put, sx_, s0_, s1_, i64_w, i32_w]
                      rfl
                     refine pure_ (i := 9) (N := some 105) (v := ?_) (a' := ?_) #[true, true, true, true, true, true, true, true, true, true, false, false, false, false, false, false, false, false, false, false, false, false, false, false, false, false, false, false, false, false, false, false, false, false, false, false] rfl rfl (any_of HT_.out kr_) (fun _ _ _ h => h) (Or.inl ⟨by rfl, ?_⟩) ?_ ?_
                     rotate_left
                     ·intro w'
                      go_simp
                      with_reducible rfl
                     rotate_left
                     ·simp only [Act.put, sx_, s0_, s1_, i64_w, i32_w]
                      rfl
                     refine pure_ (i := 10) (N := some 106) (v := ?_) (a' := ?_) #[true, true, true, true, true, true, true, true, true, true, true, false, false, false, false, false, false, false, false, false, false, false, false, false, false, false, false, false, false, false, false, false, false, false, false, false] rfl rfl (any_of HT_.out kr_) (fun _ _ _ h => h) (Or.inl ⟨by rfl, ?_⟩) ?_ ?_
                     rotate_left
                     ·intro w'
                      go_simp
                      with_reducible rfl
                     rotate_left
                     ·simp only [Act.put, sx_, s0_, s1_, i64_w, i32_w]
                      rfl
                     refine pure_ (i := 11) (N := some 107) (v := ?_) (a' := ?_) #[true, true, true, true, true, true, true, true, true, true, true, true, false, false, false, false, false, false, false, false, false, false, false, false, false, false, false, false, false, false, false, false, false, false, false, false] rfl rfl (any_of HT_.out kr_) (fun _ _ _ h => h) (Or.inl ⟨by rfl, ?_⟩) ?_ ?_
                     rotate_left
                     ·intro w'
                      go_simp
                      with_reducible rfl
                     rotate_left
                     ·simp only [Act.put, sx_, s0_, s1_, i64_w, i32_w]
                      rfl
                     refine pure_ (i := 14) (N := some 110) (v := ?_) (a' := ?_) #[true, true, true, true, true, true, true, true, true, true, true, true, false, false, true, false, false, false, false, false, false, false, false, false, false, false, false, false, false, false, false, false, false, false, false, false] rfl rfl (any_of HT_.out kr_) (fun _ _ _ h => h) (Or.inl ⟨by rfl, ?_⟩) ?_ ?_
                     rotate_left
                     ·intro w'
                      go_simp
                      with_reducible rfl
                     rotate_left
                     ·simp only [Act.put, sx_, s0_, s1_, i64_w, i32_w]
                      rfl
                     refine take_ (i := 12) (N := some 108) (v := ?_) (a' := ?_) #[true, true, true, true, true, true, true, true, true, true, true, true, true, false, true, false, false, false, false, false, false, false, false, false, false, false, false, false, false, false, false, false, false, false, false, false] rfl rfl (take_ofW HT_.out HW_.out kr_) (fun _ _ _ h => h) (Or.inl ⟨by rfl, ?_⟩) hHeld ?_ ?_
                     rotate_left
                     ·rintro w' ⟨s0, s1, s2, s3, s4, s5, s6, s7, s8, s9, s10, s11, s12⟩
                      go_simp
                      with_reducible rfl
                     rotate_left
                     ·simp only [Act.put, sx_, s0_, s1_, i64_w, i32_w]
                      rfl
                     refine pure_ (i := 13) (N := some 109) (v := ?_) (a' := ?_) #[true, true, true, true, true, true, true, true, true, true, true, true, true, true, true, false, false, false, false, false, false, false, false, false, false, false, false, false, false, false, false, false, false, false, false, false] rfl rfl (any_of HT_.out kr_) (fun _ _ _ h => h) (Or.inl ⟨by rfl, ?_⟩) ?_ ?_
                     rotate_left
                     ·intro w'
                      go_simp
                      with_reducible rfl
                     rotate_left
                     ·simp only [Act.put, sx_, s0_, s1_, i64_w, i32_w]
                      rfl
                     refine take_ (i := 15) (N := some 111) (v := ?_) (a' := ?_) #[true, true, true, true, true, true, true, true, true, true, true, true, true, true, true, true, false, false, false, false, false, false, false, false, false, false, false, false, false, false, false, false, false, false, false, false] rfl rfl (take_ofW HT_.out HW_.out kr_) (fun _ _ _ h => h) (Or.inl ⟨by rfl, ?_⟩) hHeld ?_ ?_
                     rotate_left
                     ·rintro w' ⟨s0, s1, s2, s3, s4, s5, s6, s7, s8, s9, s10, s11, s12⟩
                      go_simp
                      with_reducible rfl
                     rotate_left
                     ·simp only [Act.put, sx_, s0_, s1_, i64_w, i32_w]
                      rfl
                     refine pure_ (i := 16) (N := some 112) (v := ?_) (a' := ?_) #[true, true, true, true, true, true, true, true, true, true, true, true, true, true, true, true, true, false, false, false, false, false, false, false, false, false, false, false, false, false, false, false, false, false, false, false] rfl rfl (any_of HT_.out kr_) (fun _ _ _ h => h) (Or.inl ⟨by rfl, ?_⟩) ?_ ?_
                     rotate_left
                     ·intro w'
                      go_simp
                      with_reducible rfl
                     rotate_left
                     ·simp only [Act.put, sx_, s0_, s1_, i64_w, i32_w]
                      rfl
                     refine pure_ (i := 17) (N := some 113) (v := ?_) (a' := ?_) #[true, true, true, true, true, true, true, true, true, true, true, true, true, true, true, true, true, true, false, false, false, false, false, false, false, false, false, false, false, false, false, false, false, false, false, false] rfl rfl (any_of HT_.out kr_) (fun _ _ _ h => h) (Or.inl ⟨by rfl, ?_⟩) ?_ ?_
                     rotate_left
                     ·intro w'
                      go_simp
                      with_reducible rfl
                     rotate_left
                     ·simp only [Act.put, sx_, s0_, s1_, i64_w, i32_w]
                      rfl
                     refine pure_ (i := 18) (N := some 114) (v := ?_) (a' := ?_) #[true, true, true, true, true, true, true, true, true, true, true, true, true, true, true, true, true, true, true, false, false, false, false, false, false, false, false, false, false, false, false, false, false, false, false, false] rfl rfl (any_of HT_.out kr_) (fun _ _ _ h => h) (Or.inl ⟨by rfl, ?_⟩) ?_ ?_
                     rotate_left
                     ·intro w'
                      go_simp
                      with_reducible rfl
                     rotate_left
                     ·simp only [Act.put, sx_, s0_, s1_, i64_w, i32_w]
                      rfl
                     refine pure_ (i := 19) (N := some 115) (v := ?_) (a' := ?_) #[true, true, true, true, true, true, true, true, true, true, true, true, true, true, true, true, true, true, true, true, false, false, false, false, false, false, false, false, false, false, false, false, false, false, false, false] rfl rfl (any_of HT_.out kr_) (fun _ _ _ h => h) (Or.inl ⟨by rfl, ?_⟩) ?_ ?_
                     rotate_left
                     ·intro w'
                      go_simp
                      with_reducible rfl
                     rotate_left
                     ·simp only [Act.put, sx_, s0_, s1_, i64_w, i32_w]
                      rfl
                     refine pure_ (i := 21) (N := some 117) (v := ?_) (a' := ?_) #[true, true, true, true, true, true, true, true, true, true, true, true, true, true, true, true, true, true, true, true, false, true, false, false, false, false, false, false, false, false, false, false, false, false, false, false] rfl rfl (any_of HT_.out kr_) (fun _ _ _ h => h) (Or.inl ⟨by rfl, ?_⟩) ?_ ?_
                     rotate_left
                     ·intro w'
                      go_simp
                      with_reducible rfl
                     rotate_left
                     ·simp only [Act.put, sx_, s0_, s1_, i64_w, i32_w]
                      rfl
                     refine pure_ (i := 26) (N := some 122) (v := ?_) (a' := ?_) #[true, true, true, true, true, true, true, true, true, true, true, true, true, true, true, true, true, true, true, true, false, true, false, false, false, false, true, false, false, false, false, false, false, false, false, false] rfl rfl (any_of HT_.out kr_) (fun _ _ _ h => h) (Or.inl ⟨by rfl, ?_⟩) ?_ ?_
                     rotate_left
                     ·intro w'
                      go_simp
                      with_reducible rfl
                     rotate_left
                     ·simp only [Act.put, sx_, s0_, s1_, i64_w, i32_w]
                      rfl
                     refine take_ (i := 20) (N := some 116) (v := ?_) (a' := ?_) #[true, true, true, true, true, true, true, true, true, true, true, true, true, true, true, true, true, true, true, true, true, true, false, false, false, false, true, false, false, false, false, false, false, false, false, false] rfl rfl (take_ofW HT_.out HW_.out kr_) (fun _ _ _ h => h) (Or.inl ⟨by rfl, ?_⟩) hHeld ?_ ?_
                     rotate_left
                     ·rintro w' ⟨s0, s1, s2, s3, s4, s5, s6, s7, s8, s9, s10, s11, s12⟩
                      go_simp
                      with_reducible rfl
                     rotate_left
                     ·simp only [Act.put, sx_, s0_, s1_, i64_w, i32_w]
                      rfl
                     refine take_ (i := 22) (N := some 118) (v := ?_) (a' := ?_) #[true, true, true, true, true, true, true, true, true, true, true, true, true, true, true, true, true, true, true, true, true, true, true, false, false, false, true, false, false, false, false, false, false, false, false, false] rfl rfl (take_ofW HT_.out HW_.out kr_) (fun _ _ _ h => h) (Or.inl ⟨by rfl, ?_⟩) hHeld ?_ ?_
                     rotate_left
                     ·rintro w' ⟨s0, s1, s2, s3, s4, s5, s6, s7, s8, s9, s10, s11, s12⟩
                      go_simp
                      with_reducible rfl
                     rotate_left
                     ·simp only [Act.put, sx_, s0_, s1_, i64_w, i32_w]
                      rfl
                     refine pure_ (i := 23) (N := some 119) (v := ?_) (a' := ?_) #[true, true, true, true, true, true, true, true, true, true, true, true, true, true, true, true, true, true, true, true, true, true, true, true, false, false, true, false, false, false, false, false, false, false, false, false] rfl rfl (any_of HT_.out kr_) (fun _ _ _ h => h) (Or.inl ⟨by rfl, ?_⟩) ?_ ?_
                     rotate_left
                     ·intro w'
                      go_simp
                      with_reducible rfl
                     rotate_left
                     ·simp only [Act.put, sx_, s0_, s1_, i64_w, i32_w]
                      rfl
                     refine pure_ (i := 24) (N := some 120) (v := ?_) (a' := ?_) #[true, true, true, true, true, true, true, true, true, true, true, true, true, true, true, true, true, true, true, true, true, true, true, true, true, false, true, false, false, false, false, false, false, false, false, false] rfl rfl (any_of HT_.out kr_) (fun _ _ _ h => h) (Or.inl ⟨by rfl, ?_⟩) ?_ ?_
                     rotate_left
                     ·intro w'
                      go_simp
                      with_reducible rfl
                     rotate_left
                     ·simp only [Act.put, sx_, s0_, s1_, i64_w, i32_w]
                      rfl
                     refine pure_ (i := 25) (N := some 121) (v := ?_) (a' := ?_) #[true, true, true, true, true, true, true, true, true, true, true, true, true, true, true, true, true, true, true, true, true, true, true, true, true, true, true, false, false, false, false, false, false, false, false, false] rfl rfl (any_of HT_.out kr_) (fun _ _ _ h => h) (Or.inl ⟨by rfl, ?_⟩) ?_ ?_
                     rotate_left
                     ·intro w'
                      go_simp
                      with_reducible rfl
                     rotate_left
                     ·simp only [Act.put, sx_, s0_, s1_, i64_w, i32_w]
                      rfl
                     refine take_ (i := 27) (N := some 123) (v := ?_) (a' := ?_) #[true, true, true, true, true, true, true, true, true, true, true, true, true, true, true, true, true, true, true, true, true, true, true, true, true, true, true, true, false, false, false, false, false, false, false, false] rfl rfl (take_ofW HT_.out HW_.out kr_) (fun _ _ _ h => h) (Or.inl ⟨by rfl, ?_⟩) hHeld ?_ ?_
                     rotate_left
                     ·rintro w' ⟨s0, s1, s2, s3, s4, s5, s6, s7, s8, s9, s10, s11, s12⟩
                      go_simp
                      with_reducible rfl
                     rotate_left
                     ·simp only [Act.put, sx_, s0_, s1_, i64_w, i32_w]
                      rfl
                     refine pure_ (i := 28) (N := some 124) (v := ?_) (a' := ?_) #[true, true, true, true, true, true, true, true, true, true, true, true, true, true, true, true, true, true, true, true, true, true, true, true, true, true, true, true, true, false, false, false, false, false, false, false] rfl rfl (any_of HT_.out kr_) (fun _ _ _ h => h) (Or.inl ⟨by rfl, ?_⟩) ?_ ?_
                     rotate_left
                     ·intro w'
                      go_simp
                      with_reducible rfl
                     rotate_left
                     ·simp only [Act.put, sx_, s0_, s1_, i64_w, i32_w]
                      rfl
                     refine pure_ (i := 29) (N := some 125) (v := ?_) (a' := ?_) #[true, true, true, true, true, true, true, true, true, true, true, true, true, true, true, true, true, true, true, true, true, true, true, true, true, true, true, true, true, true, false, false, false, false, false, false] rfl rfl (any_of HT_.out kr_) (fun _ _ _ h => h) (Or.inl ⟨by rfl, ?_⟩) ?_ ?_
                     rotate_left
                     ·intro w'
                      go_simp
                      with_reducible rfl
                     rotate_left
                     ·simp only [Act.put, sx_, s0_, s1_, i64_w, i32_w]
                      rfl
                     refine pure_ (i := 30) (N := some 126) (v := ?_) (a' := ?_) #[true, true, true, true, true, true, true, true, true, true, true, true, true, true, true, true, true, true, true, true, true, true, true, true, true, true, true, true, true, true, true, false, false, false, false, false] rfl rfl (any_of HT_.out kr_) (fun _ _ _ h => h) (Or.inl ⟨by rfl, ?_⟩) ?_ ?_
                     rotate_left
                     ·intro w'
                      go_simp
                      with_reducible rfl
                     rotate_left
                     ·simp only [Act.put, sx_, s0_, s1_, i64_w, i32_w]
                      rfl
                     refine pure_ (i := 31) (N := some 127) (v := ?_) (a' := ?_) #[true, true, true, true, true, true, true, true, true, true, true, true, true, true, true, true, true, true, true, true, true, true, true, true, true, true, true, true, true, true, true, true, false, false, false, false] rfl rfl (any_of HT_.out kr_) (fun _ _ _ h => h) (Or.inl ⟨by rfl, ?_⟩) ?_ ?_
                     rotate_left
                     ·intro w'
                      go_simp
                      with_reducible rfl
                     rotate_left
                     ·simp only [Act.put, sx_, s0_, s1_, i64_w, i32_w]
                      rfl
                     refine pure_ (i := 32) (N := some 128) (v := ?_) (a' := ?_) #[true, true, true, true, true, true, true, true, true, true, true, true, true, true, true, true, true, true, true, true, true, true, true, true, true, true, true, true, true, true, true, true, true, false, false, false] rfl rfl (any_of HT_.out kr_) (fun _ _ _ h => h) (Or.inl ⟨by rfl, ?_⟩) ?_ ?_
                     rotate_left
                     ·intro w'
                      go_simp
                      with_reducible rfl
                     rotate_left
                     ·simp only [Act.put, sx_, s0_, s1_, i64_w, i32_w]
                      rfl
                     refine one_ (i := 33) (N := some 129) #[true, true, true, true, true, true, true, true, true, true, true, true, true, true, true, true, true, true, true, true, true, true, true, true, true, true, true, true, true, true, true, true, true, true, false, false] rfl rfl (one_of HT_.out kr_) (by decide) (fun K hK => ?_)
                     refine goes_ Tryz.func14 kr_ rfl #[] (by rfl) rfl rfl rl_ ?_
                     with_reducible refine (tolllaw07_awake.calls kj90  t756 _ (gm_ HGL.out (bel_ HB.out)) A133.out).mono ?_
                     rintro e w135 ⟨rfl, hb⟩
                     refine ⟨_, rfl, ?_⟩
                     have n0_ := am_ (Kd.R_below (R_ HO_718003.out) hb)
                     have n1_ := am_ (Kd.R_below (R_ HO_718004.out) hb)
                     have n2_ := am_ (Kd.V_below (by (with_reducible repeat (first | apply Kd.V_alloc | apply Kd.V_drewN | apply Kd.V_drew)); exact HO_751003.out) hb)
                     have n3_ := am_ (Kd.V_below (by (with_reducible repeat (first | apply Kd.V_alloc | apply Kd.V_drewN | apply Kd.V_drew)); exact HO_751004.out) hb)
                     have n4_ := am_ (blk_below (g := gb715) (o := .cells #[.int .i64 x716000_3, .string x716001_3, .string x716002_3, .string x716003_3, .int .i64 x716004_3, .string x716005_3, .bool x716006_3, .int .i64 x716007_3] 26 (0, 0)) (blk_ BK715.out) hb)
                     have n5_ := am_ (blk_below (g := gb716) (o := .cells #[.int .i64 x717000_3, .string x717001_3] 30 (0, 0)) (blk_ BK716.out) hb)
                     have n6_ := am_ (blk_below (g := gb717) (o := .cells #[.string x718000_3, .string x718001_3, .string x718002_3, .slice Ao50 x718003_3.length co50, .slice Ao51 x718004_3.length co51] 33 (0, 0)) (blk_ BK717.out) hb)
                     have n7_ := am_ (blk_below (g := gb750) (o := .cells #[.string t740, .string t741, .string t742, .slice Ao58 t743.length co58, .slice Ao59 t746.length co59] 33 (0, 0)) (blk_ BK750.out) hb)
                     have n8_ := am_ (below_step (bel_ HB.out) hb)
                     clear HO_718003 HO_718004 HO_751003 HO_751004 BK715 BK716 BK717 BK750 HB
                     have HO_718003 := n0_
                     have HO_718004 := n1_
                     have HO_751003 := n2_
                     have HO_751004 := n3_
                     have BK715 := n4_
                     have BK716 := n5_
                     have BK717 := n6_
                     have BK750 := n7_
                     have HB := n8_
                     clear n0_ n1_ n2_ n3_ n4_ n5_ n6_ n7_ n8_
                     (try clear hb)
                     (try clear hb2)
                     (try clear hk)
                     (try clear hi)
                     refine hK.out _ _ ⟨(blk_cell BK715.out 0).trans rfl, (blk_cell BK715.out 1).trans rfl, (blk_cell BK715.out 2).trans rfl, (blk_cell BK715.out 3).trans rfl, (blk_cell BK715.out 4).trans rfl, (blk_cell BK715.out 5).trans rfl, (blk_cell BK715.out 6).trans rfl, (blk_cell BK715.out 7).trans rfl, (blk_cell BK750.out 0).trans rfl, (blk_cell BK750.out 1).trans rfl, (blk_cell BK750.out 2).trans rfl, (blk_cell BK750.out 3).trans rfl, (blk_cell BK750.out 4).trans rfl⟩ (fun hHeld => ?_)
                     clear hK K
                     refine norm_ (a' := ?_) ?_ ?_
                     rotate_left
                     ·show Act.put _ (some 129) _ = _
                      simp only [Act.put, sx_, s0_, s1_, i64_w, i32_w]
                      rfl
                     refine pure_ (i := 34) (N := some 130) (v := ?_) (a' := ?_) #[true, true, true, true, true, true, true, true, true, true, true, true, true, true, true, true, true, true, true, true, true, true, true, true, true, true, true, true, true, true, true, true, true, true, true, false] rfl rfl (any_of HT_.out kr_) (fun _ _ _ h => h) (Or.inl ⟨by rfl, ?_⟩) ?_ ?_
                     rotate_left
                     ·intro w'
                      go_simp
                      with_reducible rfl
                     rotate_left
                     ·simp only [Act.put, sx_, s0_, s1_, i64_w, i32_w]
                      rfl
                     refine pure_ (i := 35) (N := some 6) (v := ?_) (a' := ?_) #[true, true, true, true, true, true, true, true, true, true, true, true, true, true, true, true, true, true, true, true, true, true, true, true, true, true, true, true, true, true, true, true, true, true, true, true] rfl rfl (any_of HT_.out kr_) (fun _ _ _ h => h) (Or.inl ⟨by rfl, ?_⟩) ?_ ?_
                     rotate_left
                     ·intro w'
                      go_simp
                      with_reducible rfl
                     rotate_left
                     ·simp only [Act.put, sx_, s0_, s1_, i64_w, i32_w]
                      rfl
                     refine done_ (done_of HT_.out kr_) ?_
                     try go_wp2
                     go_ret
                     exact ⟨by first | rfl | (simp [errW_none, errW_some] <;> rfl) | (simp only [← hji128]; first | rfl | (simp [errW_none, errW_some] <;> rfl)) | (simp [*, errW_none, errW_some] <;> rfl), bel_ HB.out⟩
                    ·rw [if_neg c132] at H
                     exact absurd H (by simp)
                   ·rw [if_neg c131] at H
                    exact absurd H (by simp)
                  ·rw [if_neg c130] at H
                   exact absurd H (by simp)
                 ·rw [if_neg c129] at H
                  exact absurd H (by simp)
                ·rw [if_neg c127] at H
                 exact absurd H (by simp)
    ·rw [if_neg c39] at H
     have c39b0 : (t749 == 0) = false := beq_eq_false_iff_ne.mpr c39
     have c39b1 : (t749 != 0) = true := bne_iff_ne.mpr c39
     by_cases c136 : t742.toList = ([] : List UInt8)
     ·rw [if_pos c136] at H
      have c136b2 : t742.toList.isEmpty = true := List.isEmpty_iff.2 c136
      have c136b0 : (t742.toList == ([] : List UInt8)) = true := beq_iff_eq.mpr c136
      have c136b1 : (t742.toList != ([] : List UInt8)) = false := bne_eq_false_iff_eq.mpr c136
      clear c136
      replace H := Option.bind_eq_some_iff.mp H
      obtain ⟨t751, A1370, H⟩ := H
      replace H : (some t751) = some r := H
      have A137 := Aside0.mk A1370
      clear A1370
      obtain rfl := Option.some.inj H
      have hnb138 := NB715_716.out
      have hnc138 := NB716_715.out
      have hnb139 := NB715_717.out
      have hnc139 := NB717_715.out
      obtain ⟨hcz140_0, hcz140_1, hcz140_2, hcz140_3, hcz140_4, hcz140_5, hcz140_6, hcz140_7, hfz140_0, hfz140_1, hfz140_2, hfz140_3, hfz140_4, hfz140_5, hfz140_6, hfz140_7⟩ := blk8 BK715.out
      go_wp2_with (first | ((with_reducible refine gate_dst (N := 25) rfl ?_); (try (refine gate_guard (by rfl) ?_; dsimp only)); refine Kd.R_lit k26 _ 26 ?hg (N := 25) ?hd (xs := ([(⟨x716000_3, x716001_3, x716002_3, x716003_3, x716004_3, x716005_3, x716006_3, x716007_3⟩ : S26)] : List (S26))) (inner := [.int .i64 x716000_3, .string x716001_3, .string x716002_3, .string x716003_3, .int .i64 x716004_3, .string x716005_3, .bool x716006_3, .int .i64 x716007_3]) (ok := fun _ => True) (okp := fun _ => True) ?hr ?hp (fun _ hk => hk) trivial (Below.refl _ _) (Nat.le_refl _) (by simp) ?_; (case hd => rfl); (case hg => rfl); (case hr => first | (go_simp; done) | (go_simp; rfl)); (case hp => exact (Reps.c8 (show Kd.M k26 _ _ _ (⟨x716000_3, x716001_3, x716002_3, x716003_3, x716004_3, x716005_3, x716006_3, x716007_3⟩ : S26) [.int .i64 x716000_3, .string x716001_3, .string x716002_3, .string x716003_3, .int .i64 x716004_3, .string x716005_3, .bool x716006_3, .int .i64 x716007_3] from (k26_mkM _ _ _ (⟨x716000_3, x716001_3, x716002_3, x716003_3, x716004_3, x716005_3, x716006_3, x716007_3⟩ : S26) )) (Reps.none _ _))); intro v738 w141 ho142 hb hg_ hnew_; clear hg_ hnew_; (first | rw [← Ny737.out] at ho142 | (simp only [Int.reduceToNat] at ho142; rw [← Ny737.out] at ho142)); have n0_ := am_ (Kd.R_below (R_ HO_718003.out) hb); have n1_ := am_ (Kd.R_below (R_ HO_718004.out) hb); have n2_ := am_ (Kd.R_lower (Kd.R_newB ho142 (g := gb715) (o := .cells #[.int .i64 x716000_3, .string x716001_3, .string x716002_3, .string x716003_3, .int .i64 x716004_3, .string x716005_3, .bool x716006_3, .int .i64 x716007_3] 26 (0, 0)) (blk_ BK715.out)) (below_size (bel_ HB.out))); have n3_ := am_ (blk_below (g := gb715) (o := .cells #[.int .i64 x716000_3, .string x716001_3, .string x716002_3, .string x716003_3, .int .i64 x716004_3, .string x716005_3, .bool x716006_3, .int .i64 x716007_3] 26 (0, 0)) (blk_ BK715.out) hb); have n4_ := am_ (blk_below (g := gb716) (o := .cells #[.int .i64 x717000_3, .string x717001_3] 30 (0, 0)) (blk_ BK716.out) hb); have n5_ := am_ (blk_below (g := gb717) (o := .cells #[.string x718000_3, .string x718001_3, .string x718002_3, u718003, u718004] 33 (0, 0)) (blk_ BK717.out) hb); have n6_ := am_ (below_step (bel_ HB.out) hb); clear HO_718003 HO_718004 BK715 BK716 BK717 HB; have HO_718003 := n0_; have HO_718004 := n1_; have HO739 := n2_; have BK715 := n3_; have BK716 := n4_; have BK717 := n5_; have HB := n6_; clear n0_ n1_ n2_ n3_ n4_ n5_ n6_ hb ho142; have hnb143 := NB716_717.out; have hnc143 := NB717_716.out; obtain ⟨hcz144_0, hcz144_1, hfz144_0, hfz144_1⟩ := blk2 BK716.out; obtain ⟨hcz145_0, hcz145_1, hcz145_2, hcz145_3, hcz145_4, hfz145_0, hfz145_1, hfz145_2, hfz145_3, hfz145_4⟩ := blk5 BK717.out; obtain ⟨Ao146, co146, eo146⟩ := Kd.R_slice HO739.out; subst eo146; obtain ⟨Ao147, co147, eo147⟩ := Kd.R_slice HO_718003.out; subst eo147; obtain ⟨Ao148, co148, eo148⟩ := Kd.R_slice HO_718004.out; subst eo148) | ((with_reducible refine gate_callee (f := 17) rfl ?_); refine goesL_ (some 28) rfl rfl Tryz.func17 kr_ rfl #[.slice Ao146 y737.length co146, .agg #[.int .i64 x717000_3, .string x717001_3], .agg #[.string x718000_3, .string x718001_3, .string x718002_3, .slice Ao147 x718003_3.length co147, .slice Ao148 x718004_3.length co148]] rfl rl_ ?_; (with_reducible refine (filter_Do.calls kj3 _ _ y737 x717000_3 x717001_3 x718000_3 x718001_3 x718002_3 (fun k_ => some k_ = (.slice Ao147 x718003_3.length co147 : Value).ownBlock) _ _ x718003_3 (fun k_ => some k_ = (.slice Ao148 x718004_3.length co148 : Value).ownBlock) _ _ x718004_3 t740 t741 t742 t743 t746 t749 _ ?side1 ?side2 ?side3 ?side4 A38.out).mono ?_); (case side1 => exact C_ (Kd.R_reads' HO739.out).2.2); (case side2 => exact (Kd.R_reads' HO739.out).2.1); (case side3 => exact Kd.R_V (Kd.R_tight rfl (Kd.R_types (Kd.R_types (Kd.R_types (Kd.R_apart' (HO_718003.out) (Kd.R_typed HO739.out) (by decide)) BK715.out (by decide)) BK716.out (by decide)) BK717.out (by decide)))); (case side4 => exact Kd.R_V (Kd.R_tight rfl (Kd.R_types (Kd.R_types (Kd.R_types (Kd.R_apart' (HO_718004.out) (Kd.R_typed HO739.out) (by decide)) BK715.out (by decide)) BK716.out (by decide)) BK717.out (by decide)))); rintro e w149 ⟨v744, v747, rfl, ho0, ho1, hb⟩; refine ⟨_, rfl, ?_⟩; have n0_ := am_ (Kd.R_below (R_ HO_718003.out) hb); have n1_ := am_ (Kd.R_below (R_ HO_718004.out) hb); have n2_ := am_ (Kd.R_below (R_ HO739.out) hb); have n3_ := am_ (Kd.V_lower (Kd.V_mono (ok' := fun k_ => some k_ ≠ (.slice Ao146 y737.length co146 : Value).ownBlock ∧ k_ ≠ gb715 ∧ k_ ≠ gb716 ∧ k_ ≠ gb717) ho0 (fun k_ hk_ => ⟨Or.elim hk_ (fun hs_ => Or.elim hs_ (fun hs_ => ((Kd.R_types (Kd.R_types (Kd.R_types (Kd.R_apart' (HO_718003.out) (Kd.R_typed HO739.out) (by decide)) BK715.out (by decide)) BK716.out (by decide)) BK717.out (by decide)).1 k_ hs_.symm).1.1.1.2) (fun hs_ => ((Kd.R_types (Kd.R_types (Kd.R_types (Kd.R_apart' (HO_718004.out) (Kd.R_typed HO739.out) (by decide)) BK715.out (by decide)) BK716.out (by decide)) BK717.out (by decide)).1 k_ hs_.symm).1.1.1.2)) (fun hn_ => (Kd.fresh' (Kd.R_lt (R_ HO739.out)) k_ hn_)), Or.elim hk_ (fun hs_ => Or.elim hs_ (fun hs_ => ((Kd.R_types (Kd.R_types (Kd.R_types (Kd.R_apart' (HO_718003.out) (Kd.R_typed HO739.out) (by decide)) BK715.out (by decide)) BK716.out (by decide)) BK717.out (by decide)).1 k_ hs_.symm).1.1.2) (fun hs_ => ((Kd.R_types (Kd.R_types (Kd.R_types (Kd.R_apart' (HO_718004.out) (Kd.R_typed HO739.out) (by decide)) BK715.out (by decide)) BK716.out (by decide)) BK717.out (by decide)).1 k_ hs_.symm).1.1.2)) (fun hn_ => (Kd.freshB (g := gb715) (o := .cells #[.int .i64 x716000_3, .string x716001_3, .string x716002_3, .string x716003_3, .int .i64 x716004_3, .string x716005_3, .bool x716006_3, .int .i64 x716007_3] 26 (0, 0)) (blk_ BK715.out) k_ hn_)), Or.elim hk_ (fun hs_ => Or.elim hs_ (fun hs_ => ((Kd.R_types (Kd.R_types (Kd.R_types (Kd.R_apart' (HO_718003.out) (Kd.R_typed HO739.out) (by decide)) BK715.out (by decide)) BK716.out (by decide)) BK717.out (by decide)).1 k_ hs_.symm).1.2) (fun hs_ => ((Kd.R_types (Kd.R_types (Kd.R_types (Kd.R_apart' (HO_718004.out) (Kd.R_typed HO739.out) (by decide)) BK715.out (by decide)) BK716.out (by decide)) BK717.out (by decide)).1 k_ hs_.symm).1.2)) (fun hn_ => (Kd.freshB (g := gb716) (o := .cells #[.int .i64 x717000_3, .string x717001_3] 30 (0, 0)) (blk_ BK716.out) k_ hn_)), Or.elim hk_ (fun hs_ => Or.elim hs_ (fun hs_ => ((Kd.R_types (Kd.R_types (Kd.R_types (Kd.R_apart' (HO_718003.out) (Kd.R_typed HO739.out) (by decide)) BK715.out (by decide)) BK716.out (by decide)) BK717.out (by decide)).1 k_ hs_.symm).2) (fun hs_ => ((Kd.R_types (Kd.R_types (Kd.R_types (Kd.R_apart' (HO_718004.out) (Kd.R_typed HO739.out) (by decide)) BK715.out (by decide)) BK716.out (by decide)) BK717.out (by decide)).1 k_ hs_.symm).2)) (fun hn_ => (Kd.freshB (g := gb717) (o := .cells #[.string x718000_3, .string x718001_3, .string x718002_3, .slice Ao147 x718003_3.length co147, .slice Ao148 x718004_3.length co148] 33 (0, 0)) (blk_ BK717.out) k_ hn_))⟩)) (below_size (bel_ HB.out))); have n4_ := am_ (Kd.V_lower (Kd.V_mono (ok' := fun k_ => some k_ ≠ (.slice Ao146 y737.length co146 : Value).ownBlock ∧ k_ ≠ gb715 ∧ k_ ≠ gb716 ∧ k_ ≠ gb717) ho1 (fun k_ hk_ => ⟨Or.elim hk_ (fun hs_ => Or.elim hs_ (fun hs_ => ((Kd.R_types (Kd.R_types (Kd.R_types (Kd.R_apart' (HO_718003.out) (Kd.R_typed HO739.out) (by decide)) BK715.out (by decide)) BK716.out (by decide)) BK717.out (by decide)).1 k_ hs_.symm).1.1.1.2) (fun hs_ => ((Kd.R_types (Kd.R_types (Kd.R_types (Kd.R_apart' (HO_718004.out) (Kd.R_typed HO739.out) (by decide)) BK715.out (by decide)) BK716.out (by decide)) BK717.out (by decide)).1 k_ hs_.symm).1.1.1.2)) (fun hn_ => (Kd.fresh' (Kd.R_lt (R_ HO739.out)) k_ hn_)), Or.elim hk_ (fun hs_ => Or.elim hs_ (fun hs_ => ((Kd.R_types (Kd.R_types (Kd.R_types (Kd.R_apart' (HO_718003.out) (Kd.R_typed HO739.out) (by decide)) BK715.out (by decide)) BK716.out (by decide)) BK717.out (by decide)).1 k_ hs_.symm).1.1.2) (fun hs_ => ((Kd.R_types (Kd.R_types (Kd.R_types (Kd.R_apart' (HO_718004.out) (Kd.R_typed HO739.out) (by decide)) BK715.out (by decide)) BK716.out (by decide)) BK717.out (by decide)).1 k_ hs_.symm).1.1.2)) (fun hn_ => (Kd.freshB (g := gb715) (o := .cells #[.int .i64 x716000_3, .string x716001_3, .string x716002_3, .string x716003_3, .int .i64 x716004_3, .string x716005_3, .bool x716006_3, .int .i64 x716007_3] 26 (0, 0)) (blk_ BK715.out) k_ hn_)), Or.elim hk_ (fun hs_ => Or.elim hs_ (fun hs_ => ((Kd.R_types (Kd.R_types (Kd.R_types (Kd.R_apart' (HO_718003.out) (Kd.R_typed HO739.out) (by decide)) BK715.out (by decide)) BK716.out (by decide)) BK717.out (by decide)).1 k_ hs_.symm).1.2) (fun hs_ => ((Kd.R_types (Kd.R_types (Kd.R_types (Kd.R_apart' (HO_718004.out) (Kd.R_typed HO739.out) (by decide)) BK715.out (by decide)) BK716.out (by decide)) BK717.out (by decide)).1 k_ hs_.symm).1.2)) (fun hn_ => (Kd.freshB (g := gb716) (o := .cells #[.int .i64 x717000_3, .string x717001_3] 30 (0, 0)) (blk_ BK716.out) k_ hn_)), Or.elim hk_ (fun hs_ => Or.elim hs_ (fun hs_ => ((Kd.R_types (Kd.R_types (Kd.R_types (Kd.R_apart' (HO_718003.out) (Kd.R_typed HO739.out) (by decide)) BK715.out (by decide)) BK716.out (by decide)) BK717.out (by decide)).1 k_ hs_.symm).2) (fun hs_ => ((Kd.R_types (Kd.R_types (Kd.R_types (Kd.R_apart' (HO_718004.out) (Kd.R_typed HO739.out) (by decide)) BK715.out (by decide)) BK716.out (by decide)) BK717.out (by decide)).1 k_ hs_.symm).2)) (fun hn_ => (Kd.freshB (g := gb717) (o := .cells #[.string x718000_3, .string x718001_3, .string x718002_3, .slice Ao147 x718003_3.length co147, .slice Ao148 x718004_3.length co148] 33 (0, 0)) (blk_ BK717.out) k_ hn_))⟩)) (below_size (bel_ HB.out))); have n5_ := am_ (blk_below (g := gb715) (o := .cells #[.int .i64 x716000_3, .string x716001_3, .string x716002_3, .string x716003_3, .int .i64 x716004_3, .string x716005_3, .bool x716006_3, .int .i64 x716007_3] 26 (0, 0)) (blk_ BK715.out) hb); have n6_ := am_ (blk_below (g := gb716) (o := .cells #[.int .i64 x717000_3, .string x717001_3] 30 (0, 0)) (blk_ BK716.out) hb); have n7_ := am_ (blk_below (g := gb717) (o := .cells #[.string x718000_3, .string x718001_3, .string x718002_3, .slice Ao147 x718003_3.length co147, .slice Ao148 x718004_3.length co148] 33 (0, 0)) (blk_ BK717.out) hb); have n8_ := am_ (below_step (bel_ HB.out) hb); clear HO_718003 HO_718004 HO739 BK715 BK716 BK717 HB; have HO_718003 := n0_; have HO_718004 := n1_; have HO739 := n2_; have HO745 := n3_; have HO748 := n4_; have BK715 := n5_; have BK716 := n6_; have BK717 := n7_; have HB := n8_; clear n0_ n1_ n2_ n3_ n4_ n5_ n6_ n7_ n8_; (try clear hb); (try clear hb2); (try clear hk); (try clear hi); (try clear ho0); (try clear ho1)) | ((with_reducible refine gate_dst (N := 7) rfl ?_); (try (refine gate_guard (by rfl) ?_; dsimp only)); refine box_event ?hg (N := 7) ?hd (cs := #[.string (⟨#[]⟩ : ByteArray), .string (⟨#[]⟩ : ByteArray), .string (⟨#[]⟩ : ByteArray), .slice none 0 0, .slice none 0 0]) (t := 33) ?hr ?_; (case hd => rfl); (case hg => rfl); (case hr => first | (go_simp; done) | (go_simp; rfl)); intro gb750 hg w150 hbox hb; have n0_ := am_ (Kd.R_below (R_ HO_718003.out) hb); have n1_ := am_ (Kd.R_below (R_ HO_718004.out) hb); have n2_ := am_ (Kd.R_below (R_ HO739.out) hb); have n3_ := am_ (Kd.V_below (Kd.V_elderB (by (with_reducible repeat (first | apply Kd.V_alloc | apply Kd.V_drewN | apply Kd.V_drew)); exact HO745.out) gb750 (Nat.le_of_eq hg.symm)) hb); have n4_ := am_ (Kd.V_below (Kd.V_elderB (by (with_reducible repeat (first | apply Kd.V_alloc | apply Kd.V_drewN | apply Kd.V_drew)); exact HO748.out) gb750 (Nat.le_of_eq hg.symm)) hb); have n5_ := am_ (blk_below (g := gb715) (o := .cells #[.int .i64 x716000_3, .string x716001_3, .string x716002_3, .string x716003_3, .int .i64 x716004_3, .string x716005_3, .bool x716006_3, .int .i64 x716007_3] 26 (0, 0)) (blk_ BK715.out) hb); have n6_ := am_ (blk_below (g := gb716) (o := .cells #[.int .i64 x717000_3, .string x717001_3] 30 (0, 0)) (blk_ BK716.out) hb); have n7_ := am_ (blk_below (g := gb717) (o := .cells #[.string x718000_3, .string x718001_3, .string x718002_3, .slice Ao147 x718003_3.length co147, .slice Ao148 x718004_3.length co148] 33 (0, 0)) (blk_ BK717.out) hb); have n8_ := am_ (below_step (bel_ HB.out) hb); have n9_ := am_ (hbox); have n10_ := am_ ((by rw [hg]; exact (below_size (bel_ HB.out)) : w.heap.size ≤ gb750)); have n11_ := am_ ((by rw [hg]; exact (below_size (bel_ HB.out)) : w.heap.size ≤ gb750)); have n12_ := am_ ((by rw [hg]; exact Nat.ne_of_lt (blk_lt (g := gb715) (o := .cells #[.int .i64 x716000_3, .string x716001_3, .string x716002_3, .string x716003_3, .int .i64 x716004_3, .string x716005_3, .bool x716006_3, .int .i64 x716007_3] 26 (0, 0)) (blk_ BK715.out)) : gb715 ≠ gb750)); have n13_ := am_ ((by rw [hg]; exact Nat.ne_of_gt (blk_lt (g := gb715) (o := .cells #[.int .i64 x716000_3, .string x716001_3, .string x716002_3, .string x716003_3, .int .i64 x716004_3, .string x716005_3, .bool x716006_3, .int .i64 x716007_3] 26 (0, 0)) (blk_ BK715.out)) : gb750 ≠ gb715)); have n14_ := am_ ((by rw [hg]; exact Nat.ne_of_lt (blk_lt (g := gb716) (o := .cells #[.int .i64 x717000_3, .string x717001_3] 30 (0, 0)) (blk_ BK716.out)) : gb716 ≠ gb750)); have n15_ := am_ ((by rw [hg]; exact Nat.ne_of_gt (blk_lt (g := gb716) (o := .cells #[.int .i64 x717000_3, .string x717001_3] 30 (0, 0)) (blk_ BK716.out)) : gb750 ≠ gb716)); have n16_ := am_ ((by rw [hg]; exact Nat.ne_of_lt (blk_lt (g := gb717) (o := .cells #[.string x718000_3, .string x718001_3, .string x718002_3, .slice Ao147 x718003_3.length co147, .slice Ao148 x718004_3.length co148] 33 (0, 0)) (blk_ BK717.out)) : gb717 ≠ gb750)); have n17_ := am_ ((by rw [hg]; exact Nat.ne_of_gt (blk_lt (g := gb717) (o := .cells #[.string x718000_3, .string x718001_3, .string x718002_3, .slice Ao147 x718003_3.length co147, .slice Ao148 x718004_3.length co148] 33 (0, 0)) (blk_ BK717.out)) : gb750 ≠ gb717)); clear HO_718003 HO_718004 HO739 HO745 HO748 BK715 BK716 BK717 HB; have HO_718003 := n0_; have HO_718004 := n1_; have HO739 := n2_; have HO745 := n3_; have HO748 := n4_; have BK715 := n5_; have BK716 := n6_; have BK717 := n7_; have HB := n8_; have BK750 := n9_; have GW750 := n10_; have GE750 := n11_; have NB715_750 := n12_; have NB750_715 := n13_; have NB716_750 := n14_; have NB750_716 := n15_; have NB717_750 := n16_; have NB750_717 := n17_; clear n0_ n1_ n2_ n3_ n4_ n5_ n6_ n7_ n8_ n9_ n10_ n11_ n12_ n13_ n14_ n15_ n16_ n17_ hb hbox hg; have hnb151 := NB750_715.out; have hnc151 := NB715_750.out; have hnb152 := NB750_716.out; have hnc152 := NB716_750.out; have hnb153 := NB750_717.out; have hnc153 := NB717_750.out; obtain ⟨hcz154_0, hcz154_1, hcz154_2, hcz154_3, hcz154_4, hfz154_0, hfz154_1, hfz154_2, hfz154_3, hfz154_4⟩ := blk5 BK750.out; obtain ⟨Ao155, co155, eo155⟩ := Kd.V_slice HO745.out; subst eo155; obtain ⟨Ao156, co156, eo156⟩ := Kd.V_slice HO748.out; subst eo156) | (go_at_call 14; (with_reducible refine (tolllaw07_awake.calls kj3  t751 _ (gm_ HGL.out (bel_ HB.out)) A137.out).mono ?_); rintro e w157 ⟨rfl, hb⟩; have n0_ := am_ (Kd.R_below (by (with_reducible repeat (first | apply Kd.R_alloc | apply Kd.R_drewN | apply Kd.R_drew)); exact (Kd.R_mono (Kd.R_far (p := ⟨gb750, 4, none⟩) (Kd.R_far (p := ⟨gb750, 3, none⟩) (Kd.R_far (p := ⟨gb750, 2, none⟩) (Kd.R_far (p := ⟨gb750, 1, none⟩) (Kd.R_far (p := ⟨gb750, 0, none⟩) (Kd.R_types HO_718003.out BK750.out (by decide)) (fun _ hk => hk.2) (.string t740)) (fun _ hk => hk.2) (.string t741)) (fun _ hk => hk.2) (.string t742)) (fun _ hk => hk.2) (.slice Ao155 t743.length co155)) (fun _ hk => hk.2) (.slice Ao156 t746.length co156)) (fun _ h_ => h_.1))) hb); have n1_ := am_ (Kd.R_below (by (with_reducible repeat (first | apply Kd.R_alloc | apply Kd.R_drewN | apply Kd.R_drew)); exact (Kd.R_mono (Kd.R_far (p := ⟨gb750, 4, none⟩) (Kd.R_far (p := ⟨gb750, 3, none⟩) (Kd.R_far (p := ⟨gb750, 2, none⟩) (Kd.R_far (p := ⟨gb750, 1, none⟩) (Kd.R_far (p := ⟨gb750, 0, none⟩) (Kd.R_types HO_718004.out BK750.out (by decide)) (fun _ hk => hk.2) (.string t740)) (fun _ hk => hk.2) (.string t741)) (fun _ hk => hk.2) (.string t742)) (fun _ hk => hk.2) (.slice Ao155 t743.length co155)) (fun _ hk => hk.2) (.slice Ao156 t746.length co156)) (fun _ h_ => h_.1))) hb); have n2_ := am_ (Kd.R_below (by (with_reducible repeat (first | apply Kd.R_alloc | apply Kd.R_drewN | apply Kd.R_drew)); exact (Kd.R_mono (Kd.R_far (p := ⟨gb750, 4, none⟩) (Kd.R_far (p := ⟨gb750, 3, none⟩) (Kd.R_far (p := ⟨gb750, 2, none⟩) (Kd.R_far (p := ⟨gb750, 1, none⟩) (Kd.R_far (p := ⟨gb750, 0, none⟩) (Kd.R_types HO739.out BK750.out (by decide)) (fun _ hk => hk.2) (.string t740)) (fun _ hk => hk.2) (.string t741)) (fun _ hk => hk.2) (.string t742)) (fun _ hk => hk.2) (.slice Ao155 t743.length co155)) (fun _ hk => hk.2) (.slice Ao156 t746.length co156)) (fun _ h_ => h_.1))) hb); have n3_ := am_ (Kd.V_below (by (with_reducible repeat (first | apply Kd.V_alloc | apply Kd.V_drewN | apply Kd.V_drew)); exact (Kd.V_mono (Kd.V_far (p := ⟨gb750, 4, none⟩) (Kd.V_far (p := ⟨gb750, 3, none⟩) (Kd.V_far (p := ⟨gb750, 2, none⟩) (Kd.V_far (p := ⟨gb750, 1, none⟩) (Kd.V_far (p := ⟨gb750, 0, none⟩) (Kd.V_mono HO745.out (fun k_ hk => (⟨hk, hk.2⟩ : _ ∧ k_ ≠ gb750))) (fun _ hk => hk.2) (.string t740)) (fun _ hk => hk.2) (.string t741)) (fun _ hk => hk.2) (.string t742)) (fun _ hk => hk.2) (.slice Ao155 t743.length co155)) (fun _ hk => hk.2) (.slice Ao156 t746.length co156)) (fun _ h_ => h_.1))) hb); have n4_ := am_ (Kd.V_below (by (with_reducible repeat (first | apply Kd.V_alloc | apply Kd.V_drewN | apply Kd.V_drew)); exact (Kd.V_mono (Kd.V_far (p := ⟨gb750, 4, none⟩) (Kd.V_far (p := ⟨gb750, 3, none⟩) (Kd.V_far (p := ⟨gb750, 2, none⟩) (Kd.V_far (p := ⟨gb750, 1, none⟩) (Kd.V_far (p := ⟨gb750, 0, none⟩) (Kd.V_mono HO748.out (fun k_ hk => (⟨hk, hk.2⟩ : _ ∧ k_ ≠ gb750))) (fun _ hk => hk.2) (.string t740)) (fun _ hk => hk.2) (.string t741)) (fun _ hk => hk.2) (.string t742)) (fun _ hk => hk.2) (.slice Ao155 t743.length co155)) (fun _ hk => hk.2) (.slice Ao156 t746.length co156)) (fun _ h_ => h_.1))) hb); have n5_ := am_ (blk_below (g := gb715) (o := .cells #[.int .i64 x716000_3, .string x716001_3, .string x716002_3, .string x716003_3, .int .i64 x716004_3, .string x716005_3, .bool x716006_3, .int .i64 x716007_3] 26 (0, 0)) (by (with_reducible repeat (first | refine blk_drewN ?_ _ | refine blk_drew ?_ | refine blk_alloc ?_ _)); refine blk_far ?_ NB715_750.out _; (with_reducible repeat (first | refine blk_drewN ?_ _ | refine blk_drew ?_ | refine blk_alloc ?_ _)); refine blk_far ?_ NB715_750.out _; (with_reducible repeat (first | refine blk_drewN ?_ _ | refine blk_drew ?_ | refine blk_alloc ?_ _)); refine blk_far ?_ NB715_750.out _; (with_reducible repeat (first | refine blk_drewN ?_ _ | refine blk_drew ?_ | refine blk_alloc ?_ _)); refine blk_far ?_ NB715_750.out _; (with_reducible repeat (first | refine blk_drewN ?_ _ | refine blk_drew ?_ | refine blk_alloc ?_ _)); refine blk_far ?_ NB715_750.out _; (with_reducible repeat (first | refine blk_drewN ?_ _ | refine blk_drew ?_ | refine blk_alloc ?_ _)); exact BK715.out) hb); have n6_ := am_ (blk_below (g := gb716) (o := .cells #[.int .i64 x717000_3, .string x717001_3] 30 (0, 0)) (by (with_reducible repeat (first | refine blk_drewN ?_ _ | refine blk_drew ?_ | refine blk_alloc ?_ _)); refine blk_far ?_ NB716_750.out _; (with_reducible repeat (first | refine blk_drewN ?_ _ | refine blk_drew ?_ | refine blk_alloc ?_ _)); refine blk_far ?_ NB716_750.out _; (with_reducible repeat (first | refine blk_drewN ?_ _ | refine blk_drew ?_ | refine blk_alloc ?_ _)); refine blk_far ?_ NB716_750.out _; (with_reducible repeat (first | refine blk_drewN ?_ _ | refine blk_drew ?_ | refine blk_alloc ?_ _)); refine blk_far ?_ NB716_750.out _; (with_reducible repeat (first | refine blk_drewN ?_ _ | refine blk_drew ?_ | refine blk_alloc ?_ _)); refine blk_far ?_ NB716_750.out _; (with_reducible repeat (first | refine blk_drewN ?_ _ | refine blk_drew ?_ | refine blk_alloc ?_ _)); exact BK716.out) hb); have n7_ := am_ (blk_below (g := gb717) (o := .cells #[.string x718000_3, .string x718001_3, .string x718002_3, .slice Ao147 x718003_3.length co147, .slice Ao148 x718004_3.length co148] 33 (0, 0)) (by (with_reducible repeat (first | refine blk_drewN ?_ _ | refine blk_drew ?_ | refine blk_alloc ?_ _)); refine blk_far ?_ NB717_750.out _; (with_reducible repeat (first | refine blk_drewN ?_ _ | refine blk_drew ?_ | refine blk_alloc ?_ _)); refine blk_far ?_ NB717_750.out _; (with_reducible repeat (first | refine blk_drewN ?_ _ | refine blk_drew ?_ | refine blk_alloc ?_ _)); refine blk_far ?_ NB717_750.out _; (with_reducible repeat (first | refine blk_drewN ?_ _ | refine blk_drew ?_ | refine blk_alloc ?_ _)); refine blk_far ?_ NB717_750.out _; (with_reducible repeat (first | refine blk_drewN ?_ _ | refine blk_drew ?_ | refine blk_alloc ?_ _)); refine blk_far ?_ NB717_750.out _; (with_reducible repeat (first | refine blk_drewN ?_ _ | refine blk_drew ?_ | refine blk_alloc ?_ _)); exact BK717.out) hb); have n8_ := am_ (blk_below (g := gb750) (o := .cells #[.string t740, .string t741, .string t742, .slice Ao155 t743.length co155, .slice Ao156 t746.length co156] 33 (0, 0)) (by (with_reducible repeat (first | refine blk_drewN ?_ _ | refine blk_drew ?_ | refine blk_alloc ?_ _)); refine blk_put (cs := #[.string t740, .string t741, .string t742, .slice Ao155 t743.length co155, .slice none 0 0]) ?_ 4 _ rfl; (with_reducible repeat (first | refine blk_drewN ?_ _ | refine blk_drew ?_ | refine blk_alloc ?_ _)); refine blk_put (cs := #[.string t740, .string t741, .string t742, .slice none 0 0, .slice none 0 0]) ?_ 3 _ rfl; (with_reducible repeat (first | refine blk_drewN ?_ _ | refine blk_drew ?_ | refine blk_alloc ?_ _)); refine blk_put (cs := #[.string t740, .string t741, .string (⟨#[]⟩ : ByteArray), .slice none 0 0, .slice none 0 0]) ?_ 2 _ rfl; (with_reducible repeat (first | refine blk_drewN ?_ _ | refine blk_drew ?_ | refine blk_alloc ?_ _)); refine blk_put (cs := #[.string t740, .string (⟨#[]⟩ : ByteArray), .string (⟨#[]⟩ : ByteArray), .slice none 0 0, .slice none 0 0]) ?_ 1 _ rfl; (with_reducible repeat (first | refine blk_drewN ?_ _ | refine blk_drew ?_ | refine blk_alloc ?_ _)); refine blk_put (cs := #[.string (⟨#[]⟩ : ByteArray), .string (⟨#[]⟩ : ByteArray), .string (⟨#[]⟩ : ByteArray), .slice none 0 0, .slice none 0 0]) ?_ 0 _ rfl; (with_reducible repeat (first | refine blk_drewN ?_ _ | refine blk_drew ?_ | refine blk_alloc ?_ _)); exact BK750.out) hb); have n9_ := am_ (below_step (bel_ HB.out) hb); clear HO_718003 HO_718004 HO739 HO745 HO748 BK715 BK716 BK717 BK750 HB; have HO_718003 := n0_; have HO_718004 := n1_; have HO739 := n2_; have HO745 := n3_; have HO748 := n4_; have BK715 := n5_; have BK716 := n6_; have BK717 := n7_; have BK750 := n8_; have HB := n9_; clear n0_ n1_ n2_ n3_ n4_ n5_ n6_ n7_ n8_ n9_; (try clear hb); (try clear hb2); (try clear hk); (try clear hi)))
      go_ret
      exact ⟨fi_, bel_ HB.out⟩
     ·rw [if_neg c136] at H
      have c136b2 : t742.toList.isEmpty = false := by rw [List.isEmpty_eq_false_iff]; exact c136
      exact absurd H (by simp)
   ·rw [if_neg c37] at H
    have c37b0 : (x716000_3 == 5) = false := beq_eq_false_iff_ne.mpr c37
    have c37b1 : (x716000_3 != 5) = true := bne_iff_ne.mpr c37
    replace H := Option.bind_eq_some_iff.mp H
    obtain ⟨t736, A1580, H⟩ := H
    replace H : (some t736) = some r := H
    have A158 := Aside0.mk A1580
    clear A1580
    obtain rfl := Option.some.inj H
    have hnb159 := NB715_716.out
    have hnc159 := NB716_715.out
    have hnb160 := NB715_717.out
    have hnc160 := NB717_715.out
    obtain ⟨hcz161_0, hcz161_1, hcz161_2, hcz161_3, hcz161_4, hcz161_5, hcz161_6, hcz161_7, hfz161_0, hfz161_1, hfz161_2, hfz161_3, hfz161_4, hfz161_5, hfz161_6, hfz161_7⟩ := blk8 BK715.out
    go_wp2_with (first | ((with_reducible refine gate_callee (f := 14) rfl ?_); refine goesL_ (some 22) rfl rfl Tryz.func14 kr_ rfl #[] rfl rl_ ?_; (with_reducible refine (tolllaw07_awake.calls kj3  t736 _ (gm_ HGL.out (bel_ HB.out)) A158.out).mono ?_); rintro e w162 ⟨rfl, hb⟩; refine ⟨_, rfl, ?_⟩; have n0_ := am_ (Kd.R_below (R_ HO_718003.out) hb); have n1_ := am_ (Kd.R_below (R_ HO_718004.out) hb); have n2_ := am_ (blk_below (g := gb715) (o := .cells #[.int .i64 x716000_3, .string x716001_3, .string x716002_3, .string x716003_3, .int .i64 x716004_3, .string x716005_3, .bool x716006_3, .int .i64 x716007_3] 26 (0, 0)) (blk_ BK715.out) hb); have n3_ := am_ (blk_below (g := gb716) (o := .cells #[.int .i64 x717000_3, .string x717001_3] 30 (0, 0)) (blk_ BK716.out) hb); have n4_ := am_ (blk_below (g := gb717) (o := .cells #[.string x718000_3, .string x718001_3, .string x718002_3, u718003, u718004] 33 (0, 0)) (blk_ BK717.out) hb); have n5_ := am_ (below_step (bel_ HB.out) hb); clear HO_718003 HO_718004 BK715 BK716 BK717 HB; have HO_718003 := n0_; have HO_718004 := n1_; have BK715 := n2_; have BK716 := n3_; have BK717 := n4_; have HB := n5_; clear n0_ n1_ n2_ n3_ n4_ n5_; (try clear hb); (try clear hb2); (try clear hk); (try clear hi)))
    go_ret
    exact ⟨fi_, bel_ HB.out⟩

/-- THE ONE PURE STATEMENT of tolllaw07_FilterPaths. -/
def tolllaw07_FilterPaths.Pure : Prop := ∀ (a0_0 : Int) (a0_1 : ByteArray) (a0_2 : ByteArray) (a0_3 : ByteArray) (a0_4 : Int) (a0_5 : ByteArray) (a0_6 : Bool) (a0_7 : Int) (a1_0 : Int) (a1_1 : ByteArray) (a2_0 : ByteArray) (a2_1 : ByteArray) (a2_2 : ByteArray) (l2_3 : List (S59)) (l2_4 : List (S59)), (((Lit.int .i64 a0_0).wf = true) ∧ (a0_1.size ≤ 140737488351232) ∧ (a0_2.size ≤ 140737488351232) ∧ (a0_3.size ≤ 140737488351232) ∧ ((Lit.int .i64 a0_4).wf = true) ∧ (a0_5.size ≤ 140737488351232) ∧ (True) ∧ ((Lit.int .i64 a0_7).wf = true)) → (((Lit.int .i64 a1_0).wf = true) ∧ (a1_1.size ≤ 140737488351232)) → ((a2_0.size ≤ 140737488351232) ∧ (a2_1.size ≤ 140737488351232) ∧ (a2_2.size ≤ 140737488351232) ∧ (l2_3.length ≤ maxLen ∧ l2_3.length * 32 ≤ 140737488351232 ∧ ∀ y ∈ l2_3, (y.f0.size ≤ 140737488351232) ∧ (y.f1.size ≤ 140737488351232)) ∧ (l2_4.length ≤ maxLen ∧ l2_4.length * 32 ≤ 140737488351232 ∧ ∀ y ∈ l2_4, (y.f0.size ≤ 140737488351232) ∧ (y.f1.size ≤ 140737488351232))) → ∃ k, tolllaw07_FilterPaths.f k a0_0 a0_1 a0_2 a0_3 a0_4 a0_5 a0_6 a0_7 a1_0 a1_1 a2_0 a2_1 a2_2 l2_3 l2_4 = some true

end Go.Proofs.YtfdopmjgiakcdaaGreatDoor.P
