-- written by wip/tool/hprint.py of this repo: the kit's print, with contracts by hand joined; Lean checks it.
import Derived.Test.YtfdopmjgiakcdaaGreatDoorQx0
import Derived.Test.YtfdopmjgiakcdaaGreatDoorQx2
import Derived.Test.YtfdopmjgiakcdaaGreatDoorQx7
import Derived.Test.YtfdopmjgiakcdaaGreatDoorQx8
import Derived.Test.YtfdopmjgiakcdaaGreatDoorQx9
import Derived.Test.YtfdopmjgiakcdaaGreatDoorQx11
namespace Go.Proofs.YtfdopmjgiakcdaaGreatDoor.Q
open Go.RowKit Go.Proofs.YtfdopmjgiakcdaaGreatDoorW.PrintWords Go.Proofs.YtfdopmjgiakcdaaGreatDoorW.PrintLast Go.Proofs.YtfdopmjgiakcdaaGreatDoorW.PrintMore
attribute [local go_sem] max2_int min2_int max_two min_two max_three min_three max_four min_four   -- for this text's walks alone
set_option linter.unusedVariables false
set_option linter.unusedSimpArgs false

attribute [local go_sem high] eqA44
/-! ### tolllaw07_FilterAways: function 7 -/
mutual
def tolllaw07_FilterAways.j1 : Nat → Int → List (S26) → Int → ByteArray → ByteArray → ByteArray → ByteArray → List (S59) → List (S59) → Bool → Int → ByteArray → ByteArray → ByteArray → ByteArray → List (S59) → List (S59) → Option (Bool)
 | 0, _, _, _, _, _, _, _, _, _, _, _, _, _, _, _, _, _ => none
 | k + 1, x6, x255000, x255001, x255002, x255003, x255004, x255005, x255006, x255007, x255008, x274000, x274001, x275000, x275001, x275002, x275003, x275004 => (filter_Away.f k x255000 x255001 x255002 x275000 x275001 x275002 x275003 x275004 x255008).bind fun bt279 => (tolllaw07_FilterAways.l1 k x6 bt279.2.2 false 0 x255000 x255001 x255002 x255003 x255004 x255005 x255006 x255007 x255008 x274000 x274001 bt279.1 bt279.2.1)
def tolllaw07_FilterAways.l1 : Nat → Int → Int → Bool → Int → List (S26) → Int → ByteArray → ByteArray → ByteArray → ByteArray → List (S59) → List (S59) → Bool → Int → ByteArray → Int → ByteArray → Option (Bool)
 | 0, _, _, _, _, _, _, _, _, _, _, _, _, _, _, _, _, _ => none
 | k + 1, x6, x10, x11, x12, x255000, x255001, x255002, x255003, x255004, x255005, x255006, x255007, x255008, x274000, x274001, x283000, x283001 => if x12 < (x255000.length : Int) then (if x11 = true then (tolllaw07_FilterAways.l1 k x6 x10 true (wrap64 (x12 + 1)) x255000 x255001 x255002 x255003 x255004 x255005 x255006 x255007 x255008 x274000 x274001 x283000 x283001) else (if 0 ≤ x12 then (tolllaw07_FilterAways.l1 k x6 x10 (((rd_T26 x255000 x12).f0) == 4) (wrap64 (x12 + 1)) x255000 x255001 x255002 x255003 x255004 x255005 x255006 x255007 x255008 x274000 x274001 x283000 x283001) else (none))) else (if (!(x274000 == x283000) || (!(x274001.toList == x283001.toList))) = true then (none) else (if x6 = x10 then (if x6 = 3 then (if x11 = true then (none) else (if x6 = 0 then (tolllaw07_FilterAways.j3 k x6 (!x11) x255000 x255001 x255002 x255003 x255004 x255005 x255006 x255007 x255008 x274000 x274001) else (tolllaw07_FilterAways.j3 k x6 false x255000 x255001 x255002 x255003 x255004 x255005 x255006 x255007 x255008 x274000 x274001))) else (if x6 = 0 then (tolllaw07_FilterAways.j3 k x6 (!x11) x255000 x255001 x255002 x255003 x255004 x255005 x255006 x255007 x255008 x274000 x274001) else (tolllaw07_FilterAways.j3 k x6 false x255000 x255001 x255002 x255003 x255004 x255005 x255006 x255007 x255008 x274000 x274001))) else (none)))
def tolllaw07_FilterAways.j3 : Nat → Int → Bool → List (S26) → Int → ByteArray → ByteArray → ByteArray → ByteArray → List (S59) → List (S59) → Bool → Int → ByteArray → Option (Bool)
 | 0, _, _, _, _, _, _, _, _, _, _, _, _, _ => none
 | k + 1, x6, x100, x255000, x255001, x255002, x255003, x255004, x255005, x255006, x255007, x255008, x274000, x274001 => if x100 = true then (none) else (if x6 = 0 then (if x255008 = true then (if x274000 = 301 then (if (x274001.size : Int) > 8 then (if 0 ≤ 8 then (if 8 ≤ (x274001.size : Int) then (if (x274001.extract 0 8).toList = ([104, 116, 116, 112, 115, 58, 47, 47] : List UInt8) then ((tolllaw07_awake.f k).bind fun t284 => (some t284)) else (none)) else (none)) else (none)) else (none)) else (if x274000 = 302 then (if (x274001.size : Int) > 8 then (if 0 ≤ 8 then (if 8 ≤ (x274001.size : Int) then (if (x274001.extract 0 8).toList = ([104, 116, 116, 112, 115, 58, 47, 47] : List UInt8) then ((tolllaw07_awake.f k).bind fun t285 => (some t285)) else (none)) else (none)) else (none)) else (none)) else (none))) else (if x274000 = 301 then (if (x274001.size : Int) > 7 then (if 0 ≤ 7 then (if 7 ≤ (x274001.size : Int) then (if (x274001.extract 0 7).toList = ([104, 116, 116, 112, 58, 47, 47] : List UInt8) then ((tolllaw07_awake.f k).bind fun t286 => (some t286)) else (none)) else (none)) else (none)) else (none)) else (if x274000 = 302 then (if (x274001.size : Int) > 7 then (if 0 ≤ 7 then (if 7 ≤ (x274001.size : Int) then (if (x274001.extract 0 7).toList = ([104, 116, 116, 112, 58, 47, 47] : List UInt8) then ((tolllaw07_awake.f k).bind fun t287 => (some t287)) else (none)) else (none)) else (none)) else (none)) else (none)))) else (if (x274000 == 0 && (x274001.toList == ([] : List UInt8))) = true then ((tolllaw07_awake.f k).bind fun t288 => (some t288)) else (none)))
def tolllaw07_FilterAways.l0 : Nat → List (S59) → Int → Int → List (S26) → Int → ByteArray → ByteArray → ByteArray → ByteArray → List (S59) → List (S59) → Bool → Int → ByteArray → ByteArray → ByteArray → ByteArray → List (S59) → List (S59) → Option (Bool)
 | 0, _, _, _, _, _, _, _, _, _, _, _, _, _, _, _, _, _, _, _ => none
 | k + 1, x1, x6, x8, x255000, x255001, x255002, x255003, x255004, x255005, x255006, x255007, x255008, x274000, x274001, x275000, x275001, x275002, x275003, x275004 => if x8 < (x1.length : Int) then (if x8 < 5 then (if 0 ≤ x8 then (if x275004.length < 4398046511104 then (tolllaw07_FilterAways.l0 k x1 x6 (wrap64 (x8 + 1)) x255000 x255001 x255002 x255003 x255004 x255005 x255006 x255007 x255008 x274000 x274001 x275000 x275001 x275002 x275003 (x275004 ++ [(⟨(rd_T59 x1 x8).f0, (rd_T59 x1 x8).f1⟩ : S59)])) else (none)) else (none)) else (tolllaw07_FilterAways.j1 k x6 x255000 x255001 x255002 x255003 x255004 x255005 x255006 x255007 x255008 x274000 x274001 x275000 x275001 x275002 x275003 x275004)) else (tolllaw07_FilterAways.j1 k x6 x255000 x255001 x255002 x255003 x255004 x255005 x255006 x255007 x255008 x274000 x274001 x275000 x275001 x275002 x275003 x275004)
end
def tolllaw07_FilterAways.f (k : Nat) (l0_0 : List (S26)) (a0_1 : Int) (a0_2 : ByteArray) (a0_3 : ByteArray) (a0_4 : ByteArray) (a0_5 : ByteArray) (l0_6 : List (S59)) (l0_7 : List (S59)) (a0_8 : Bool) (l1 : List (S59)) : Option (Bool) := (tolllaw07_cut.f k l0_0 a0_1 a0_2 a0_3 a0_4 a0_5 l0_6 l0_7 a0_8).bind fun bt255 => ((filter_Away.f k bt255.1 bt255.2.1 bt255.2.2.1 bt255.2.2.2.1 bt255.2.2.2.2.1 bt255.2.2.2.2.2.1 bt255.2.2.2.2.2.2.1 bt255.2.2.2.2.2.2.2.1 bt255.2.2.2.2.2.2.2.2).bind fun bt270 => (tolllaw07_FilterAways.l0 k l1 bt270.2.2 0 bt255.1 bt255.2.1 bt255.2.2.1 bt255.2.2.2.1 bt255.2.2.2.2.1 bt255.2.2.2.2.2.1 bt255.2.2.2.2.2.2.1 bt255.2.2.2.2.2.2.2.1 bt255.2.2.2.2.2.2.2.2 bt270.1 bt270.2.1 bt255.2.2.2.1 bt255.2.2.2.2.1 bt255.2.2.2.2.2.1 bt255.2.2.2.2.2.2.1 ([] : List (S59))))
theorem tolllaw07_FilterAways.mono_l : ∀ k, (∀ y0 y1 y2 y3 y4 y5 y6 y7 y8 y9 y10 y11 y12 y13 y14 y15 y16, LeO (tolllaw07_FilterAways.j1 k y0 y1 y2 y3 y4 y5 y6 y7 y8 y9 y10 y11 y12 y13 y14 y15 y16) (tolllaw07_FilterAways.j1 (k + 1) y0 y1 y2 y3 y4 y5 y6 y7 y8 y9 y10 y11 y12 y13 y14 y15 y16)) ∧ (∀ y0 y1 y2 y3 y4 y5 y6 y7 y8 y9 y10 y11 y12 y13 y14 y15 y16, LeO (tolllaw07_FilterAways.l1 k y0 y1 y2 y3 y4 y5 y6 y7 y8 y9 y10 y11 y12 y13 y14 y15 y16) (tolllaw07_FilterAways.l1 (k + 1) y0 y1 y2 y3 y4 y5 y6 y7 y8 y9 y10 y11 y12 y13 y14 y15 y16)) ∧ (∀ y0 y1 y2 y3 y4 y5 y6 y7 y8 y9 y10 y11 y12, LeO (tolllaw07_FilterAways.j3 k y0 y1 y2 y3 y4 y5 y6 y7 y8 y9 y10 y11 y12) (tolllaw07_FilterAways.j3 (k + 1) y0 y1 y2 y3 y4 y5 y6 y7 y8 y9 y10 y11 y12)) ∧ (∀ y0 y1 y2 y3 y4 y5 y6 y7 y8 y9 y10 y11 y12 y13 y14 y15 y16 y17 y18, LeO (tolllaw07_FilterAways.l0 k y0 y1 y2 y3 y4 y5 y6 y7 y8 y9 y10 y11 y12 y13 y14 y15 y16 y17 y18) (tolllaw07_FilterAways.l0 (k + 1) y0 y1 y2 y3 y4 y5 y6 y7 y8 y9 y10 y11 y12 y13 y14 y15 y16 y17 y18))
 | 0 => ⟨fun _ _ _ _ _ _ _ _ _ _ _ _ _ _ _ _ _ r h => by simp [tolllaw07_FilterAways.j1] at h, fun _ _ _ _ _ _ _ _ _ _ _ _ _ _ _ _ _ r h => by simp [tolllaw07_FilterAways.l1] at h, fun _ _ _ _ _ _ _ _ _ _ _ _ _ r h => by simp [tolllaw07_FilterAways.j3] at h, fun _ _ _ _ _ _ _ _ _ _ _ _ _ _ _ _ _ _ _ r h => by simp [tolllaw07_FilterAways.l0] at h⟩
 | k + 1 => by
  obtain ⟨ih0, ih1, ih2, ih3⟩ := tolllaw07_FilterAways.mono_l k
  refine ⟨?_, ?_, ?_, ?_⟩
  ·intro y0 y1 y2 y3 y4 y5 y6 y7 y8 y9 y10 y11 y12 y13 y14 y15 y16
   unfold tolllaw07_FilterAways.j1
   repeat' first
   | (with_reducible exact ih0 _ _ _ _ _ _ _ _ _ _ _ _ _ _ _ _ _)
   | (with_reducible exact ih1 _ _ _ _ _ _ _ _ _ _ _ _ _ _ _ _ _)
   | (with_reducible exact ih2 _ _ _ _ _ _ _ _ _ _ _ _ _)
   | (with_reducible exact ih3 _ _ _ _ _ _ _ _ _ _ _ _ _ _ _ _ _ _ _)
   | (with_reducible exact filter_Away.mono _ _ _ _ _ _ _ _ _ _)
   | (with_reducible exact tolllaw07_awake.mono _)
   | (with_reducible exact tolllaw07_cut.mono _ _ _ _ _ _ _ _ _ _)
   | (with_reducible exact LeO.refl _)
   | (with_reducible exact LeO.none _)
   | (with_reducible refine LeO.ite ?_ ?_)
   | (with_reducible refine LeO.bind ?_ (fun _ => ?_))
   | exact ih0 _ _ _ _ _ _ _ _ _ _ _ _ _ _ _ _ _
   | exact ih1 _ _ _ _ _ _ _ _ _ _ _ _ _ _ _ _ _
   | exact ih2 _ _ _ _ _ _ _ _ _ _ _ _ _
   | exact ih3 _ _ _ _ _ _ _ _ _ _ _ _ _ _ _ _ _ _ _
   | exact filter_Away.mono _ _ _ _ _ _ _ _ _ _
   | exact tolllaw07_awake.mono _
   | exact tolllaw07_cut.mono _ _ _ _ _ _ _ _ _ _
   | exact LeO.none _
   | refine LeO.ite ?_ ?_
   | refine LeO.bind ?_ (fun _ => ?_)
  ·intro y0 y1 y2 y3 y4 y5 y6 y7 y8 y9 y10 y11 y12 y13 y14 y15 y16
   unfold tolllaw07_FilterAways.l1
   repeat' first
   | (with_reducible exact ih0 _ _ _ _ _ _ _ _ _ _ _ _ _ _ _ _ _)
   | (with_reducible exact ih1 _ _ _ _ _ _ _ _ _ _ _ _ _ _ _ _ _)
   | (with_reducible exact ih2 _ _ _ _ _ _ _ _ _ _ _ _ _)
   | (with_reducible exact ih3 _ _ _ _ _ _ _ _ _ _ _ _ _ _ _ _ _ _ _)
   | (with_reducible exact filter_Away.mono _ _ _ _ _ _ _ _ _ _)
   | (with_reducible exact tolllaw07_awake.mono _)
   | (with_reducible exact tolllaw07_cut.mono _ _ _ _ _ _ _ _ _ _)
   | (with_reducible exact LeO.refl _)
   | (with_reducible exact LeO.none _)
   | (with_reducible refine LeO.ite ?_ ?_)
   | (with_reducible refine LeO.bind ?_ (fun _ => ?_))
   | exact ih0 _ _ _ _ _ _ _ _ _ _ _ _ _ _ _ _ _
   | exact ih1 _ _ _ _ _ _ _ _ _ _ _ _ _ _ _ _ _
   | exact ih2 _ _ _ _ _ _ _ _ _ _ _ _ _
   | exact ih3 _ _ _ _ _ _ _ _ _ _ _ _ _ _ _ _ _ _ _
   | exact filter_Away.mono _ _ _ _ _ _ _ _ _ _
   | exact tolllaw07_awake.mono _
   | exact tolllaw07_cut.mono _ _ _ _ _ _ _ _ _ _
   | exact LeO.none _
   | refine LeO.ite ?_ ?_
   | refine LeO.bind ?_ (fun _ => ?_)
  ·intro y0 y1 y2 y3 y4 y5 y6 y7 y8 y9 y10 y11 y12
   unfold tolllaw07_FilterAways.j3
   repeat' first
   | (with_reducible exact ih0 _ _ _ _ _ _ _ _ _ _ _ _ _ _ _ _ _)
   | (with_reducible exact ih1 _ _ _ _ _ _ _ _ _ _ _ _ _ _ _ _ _)
   | (with_reducible exact ih2 _ _ _ _ _ _ _ _ _ _ _ _ _)
   | (with_reducible exact ih3 _ _ _ _ _ _ _ _ _ _ _ _ _ _ _ _ _ _ _)
   | (with_reducible exact filter_Away.mono _ _ _ _ _ _ _ _ _ _)
   | (with_reducible exact tolllaw07_awake.mono _)
   | (with_reducible exact tolllaw07_cut.mono _ _ _ _ _ _ _ _ _ _)
   | (with_reducible exact LeO.refl _)
   | (with_reducible exact LeO.none _)
   | (with_reducible refine LeO.ite ?_ ?_)
   | (with_reducible refine LeO.bind ?_ (fun _ => ?_))
   | exact ih0 _ _ _ _ _ _ _ _ _ _ _ _ _ _ _ _ _
   | exact ih1 _ _ _ _ _ _ _ _ _ _ _ _ _ _ _ _ _
   | exact ih2 _ _ _ _ _ _ _ _ _ _ _ _ _
   | exact ih3 _ _ _ _ _ _ _ _ _ _ _ _ _ _ _ _ _ _ _
   | exact filter_Away.mono _ _ _ _ _ _ _ _ _ _
   | exact tolllaw07_awake.mono _
   | exact tolllaw07_cut.mono _ _ _ _ _ _ _ _ _ _
   | exact LeO.none _
   | refine LeO.ite ?_ ?_
   | refine LeO.bind ?_ (fun _ => ?_)
  ·intro y0 y1 y2 y3 y4 y5 y6 y7 y8 y9 y10 y11 y12 y13 y14 y15 y16 y17 y18
   unfold tolllaw07_FilterAways.l0
   repeat' first
   | (with_reducible exact ih0 _ _ _ _ _ _ _ _ _ _ _ _ _ _ _ _ _)
   | (with_reducible exact ih1 _ _ _ _ _ _ _ _ _ _ _ _ _ _ _ _ _)
   | (with_reducible exact ih2 _ _ _ _ _ _ _ _ _ _ _ _ _)
   | (with_reducible exact ih3 _ _ _ _ _ _ _ _ _ _ _ _ _ _ _ _ _ _ _)
   | (with_reducible exact filter_Away.mono _ _ _ _ _ _ _ _ _ _)
   | (with_reducible exact tolllaw07_awake.mono _)
   | (with_reducible exact tolllaw07_cut.mono _ _ _ _ _ _ _ _ _ _)
   | (with_reducible exact LeO.refl _)
   | (with_reducible exact LeO.none _)
   | (with_reducible refine LeO.ite ?_ ?_)
   | (with_reducible refine LeO.bind ?_ (fun _ => ?_))
   | exact ih0 _ _ _ _ _ _ _ _ _ _ _ _ _ _ _ _ _
   | exact ih1 _ _ _ _ _ _ _ _ _ _ _ _ _ _ _ _ _
   | exact ih2 _ _ _ _ _ _ _ _ _ _ _ _ _
   | exact ih3 _ _ _ _ _ _ _ _ _ _ _ _ _ _ _ _ _ _ _
   | exact filter_Away.mono _ _ _ _ _ _ _ _ _ _
   | exact tolllaw07_awake.mono _
   | exact tolllaw07_cut.mono _ _ _ _ _ _ _ _ _ _
   | exact LeO.none _
   | refine LeO.ite ?_ ?_
   | refine LeO.bind ?_ (fun _ => ?_)
theorem tolllaw07_FilterAways.mono : ∀ a0 a1 a2 a3 a4 a5 a6 a7 a8 a9 k, LeO (tolllaw07_FilterAways.f k a0 a1 a2 a3 a4 a5 a6 a7 a8 a9) (tolllaw07_FilterAways.f (k + 1) a0 a1 a2 a3 a4 a5 a6 a7 a8 a9) := by
 intro a0 a1 a2 a3 a4 a5 a6 a7 a8 a9 k
 obtain ⟨ih0, ih1, ih2, ih3⟩ := tolllaw07_FilterAways.mono_l k
 unfold tolllaw07_FilterAways.f
 repeat' first
   | (with_reducible exact ih0 _ _ _ _ _ _ _ _ _ _ _ _ _ _ _ _ _)
   | (with_reducible exact ih1 _ _ _ _ _ _ _ _ _ _ _ _ _ _ _ _ _)
   | (with_reducible exact ih2 _ _ _ _ _ _ _ _ _ _ _ _ _)
   | (with_reducible exact ih3 _ _ _ _ _ _ _ _ _ _ _ _ _ _ _ _ _ _ _)
   | (with_reducible exact filter_Away.mono _ _ _ _ _ _ _ _ _ _)
   | (with_reducible exact tolllaw07_awake.mono _)
   | (with_reducible exact tolllaw07_cut.mono _ _ _ _ _ _ _ _ _ _)
   | (with_reducible exact LeO.refl _)
   | (with_reducible exact LeO.none _)
   | (with_reducible refine LeO.ite ?_ ?_)
   | (with_reducible refine LeO.bind ?_ (fun _ => ?_))
   | exact ih0 _ _ _ _ _ _ _ _ _ _ _ _ _ _ _ _ _
   | exact ih1 _ _ _ _ _ _ _ _ _ _ _ _ _ _ _ _ _
   | exact ih2 _ _ _ _ _ _ _ _ _ _ _ _ _
   | exact ih3 _ _ _ _ _ _ _ _ _ _ _ _ _ _ _ _ _ _ _
   | exact filter_Away.mono _ _ _ _ _ _ _ _ _ _
   | exact tolllaw07_awake.mono _
   | exact tolllaw07_cut.mono _ _ _ _ _ _ _ _ _ _
   | exact LeO.none _
   | refine LeO.ite ?_ ?_
   | refine LeO.bind ?_ (fun _ => ?_)
def tolllaw07_FilterAways.T8 : Bool × List (List Nat × List Nat) := (true, [([], []), ([0], [0]), ([], []), ([], []), ([2, 3], [2, 3]), ([4], [4]), ([5], [5]), ([1, 6], [1, 6]), ([0, 1, 2, 3, 4, 5, 6, 7], []), ([8, 7, 7, 0, 1, 2, 3, 4, 5, 6, 7], [7, 8])])
def tolllaw07_FilterAways.B8 : List Nat := [0, 1, 0, 0, 12, 28, 60, 127, 255, 511]
theorem tolllaw07_FilterAways.tab8 : rtab .any (opsOf Tryz.f7 8) = tolllaw07_FilterAways.T8 := by kernel_rfl
theorem tolllaw07_FilterAways.bits8 : waitsOk tolllaw07_FilterAways.T8.2 tolllaw07_FilterAways.B8 = true := by kernel_rfl
set_option maxHeartbeats 6000000 in
set_option maxRecDepth 100000 in
theorem tolllaw07_FilterAways.calls (k : Nat) (A0_0 : Option Addr) (c0_0 : Nat) (l0_0 : List (S26)) (a0_1 : Int) (a0_2 : ByteArray) (a0_3 : ByteArray) (a0_4 : ByteArray) (a0_5 : ByteArray) (A0_6 : Option Addr) (c0_6 : Nat) (l0_6 : List (S59)) (A0_7 : Option Addr) (c0_7 : Nat) (l0_7 : List (S59)) (a0_8 : Bool) (A1 : Option Addr) (c1 : Nat) (l1 : List (S59)) (r : Bool) (w : World) (hr0_0 : Kd.C k26 w A0_0 l0_0.length l0_0) (hc0_0 : l0_0.length ≤ c0_0) (hr0_6 : Kd.C k59 w A0_6 l0_6.length l0_6) (hc0_6 : l0_6.length ≤ c0_6) (hr0_7 : Kd.C k59 w A0_7 l0_7.length l0_7) (hc0_7 : l0_7.length ≤ c0_7) (hr1 : Kd.C k59 w A1 l1.length l1) (hc1 : l1.length ≤ c1) (hG : MaxL w) (h : tolllaw07_FilterAways.f k l0_0 a0_1 a0_2 a0_3 a0_4 a0_5 l0_6 l0_7 a0_8 l1 = some r) :
  Calls Tryz.prog 7 #[.agg #[.slice A0_0 l0_0.length c0_0, .int .i64 a0_1, .string a0_2, .string a0_3, .string a0_4, .string a0_5, .slice A0_6 l0_6.length c0_6, .slice A0_7 l0_7.length c0_7, .bool a0_8], .slice A1 l1.length c1] w fun e w' => e = .returned (.bool r) ∧ Below w.heap.size w w' := by
 have HGL := am_ hG
 clear hG
 have hu35 := Tryz.underlying35
 have hu30 := Tryz.underlying30
 have hu33 := Tryz.underlying33
 have hu44 := Tryz.underlying44
 have hu59 := Tryz.underlying59
 have HR0_0 := Aside0.mk hr0_0
 have HC0_0 := Aside0.mk hc0_0
 clear hr0_0 hc0_0
 have HR0_6 := Aside0.mk hr0_6
 have HC0_6 := Aside0.mk hc0_6
 clear hr0_6 hc0_6
 have HR0_7 := Aside0.mk hr0_7
 have HC0_7 := Aside0.mk hc0_7
 clear hr0_7 hc0_7
 have HR1 := Aside0.mk hr1
 have HC1 := Aside0.mk hc1
 clear hr1 hc1
 have HB := am_ (Below.refl w.heap.size w)
 have H : ((tolllaw07_cut.f k l0_0 a0_1 a0_2 a0_3 a0_4 a0_5 l0_6 l0_7 a0_8).bind fun bt255 => ((filter_Away.f k bt255.1 bt255.2.1 bt255.2.2.1 bt255.2.2.2.1 bt255.2.2.2.2.1 bt255.2.2.2.2.2.1 bt255.2.2.2.2.2.2.1 bt255.2.2.2.2.2.2.2.1 bt255.2.2.2.2.2.2.2.2).bind fun bt270 => (tolllaw07_FilterAways.l0 k l1 bt270.2.2 0 bt255.1 bt255.2.1 bt255.2.2.1 bt255.2.2.2.1 bt255.2.2.2.2.1 bt255.2.2.2.2.2.1 bt255.2.2.2.2.2.2.1 bt255.2.2.2.2.2.2.2.1 bt255.2.2.2.2.2.2.2.2 bt270.1 bt270.2.1 bt255.2.2.2.1 bt255.2.2.2.2.1 bt255.2.2.2.2.2.1 bt255.2.2.2.2.2.2.1 ([] : List (S59))))) = some r := h
 clear h
 replace H := Option.bind_eq_some_iff.mp H
 obtain ⟨⟨t255, t258, t259, t260, t261, t262, t263, t266, t269⟩, A30, H⟩ := H
 replace H : ((filter_Away.f k t255 t258 t259 t260 t261 t262 t263 t266 t269).bind fun bt270 => (tolllaw07_FilterAways.l0 k l1 bt270.2.2 0 t255 t258 t259 t260 t261 t262 t263 t266 t269 bt270.1 bt270.2.1 t260 t261 t262 t263 ([] : List (S59)))) = some r := H
 have A3 := Aside0.mk A30
 clear A30
 replace H := Option.bind_eq_some_iff.mp H
 obtain ⟨⟨t270, t271, t272⟩, A40, H⟩ := H
 replace H : (tolllaw07_FilterAways.l0 k l1 t272 0 t255 t258 t259 t260 t261 t262 t263 t266 t269 t270 t271 t260 t261 t262 t263 ([] : List (S59))) = some r := H
 have A4 := Aside0.mk A40
 clear A40
 have HC5 := Aside0.mk H
 clear H
 go_enter Tryz.func7, Tryz.ntmps7
 go_upto_block 0 with (first | ((with_reducible refine gate_dst (N := 2) rfl ?_); (try (refine gate_guard (by rfl) ?_; dsimp only)); refine box_event ?hg (N := 2) ?hd (cs := #[.slice A0_0 l0_0.length c0_0, .int .i64 a0_1, .string a0_2, .string a0_3, .string a0_4, .string a0_5, .slice A0_6 l0_6.length c0_6, .slice A0_7 l0_7.length c0_7, .bool a0_8]) (t := 35) ?hr ?_; (case hd => rfl); (case hg => rfl); (case hr => first | (go_simp; done) | (go_simp; rfl)); intro gb254 hg w6 hbox hb; have n0_ := am_ (below_step (bel_ HB.out) hb); have n1_ := am_ (hbox); have n2_ := am_ ((by rw [hg]; exact (below_size (bel_ HB.out)) : w.heap.size ≤ gb254)); have n3_ := am_ ((by rw [hg]; exact (below_size (bel_ HB.out)) : w.heap.size ≤ gb254)); clear HB; have HB := n0_; have BK254 := n1_; have GW254 := n2_; have GE254 := n3_; clear n0_ n1_ n2_ n3_ hb hbox hg; have hcz7_0 : w6.cell? ⟨gb254, 0, none⟩ = some (.slice A0_0 l0_0.length c0_0) := (blk_cell BK254.out 0).trans rfl; have hcz7_1 : w6.cell? ⟨gb254, 1, none⟩ = some (.int .i64 a0_1) := (blk_cell BK254.out 1).trans rfl; have hcz7_2 : w6.cell? ⟨gb254, 2, none⟩ = some (.string a0_2) := (blk_cell BK254.out 2).trans rfl; have hcz7_3 : w6.cell? ⟨gb254, 3, none⟩ = some (.string a0_3) := (blk_cell BK254.out 3).trans rfl; have hcz7_4 : w6.cell? ⟨gb254, 4, none⟩ = some (.string a0_4) := (blk_cell BK254.out 4).trans rfl; have hcz7_5 : w6.cell? ⟨gb254, 5, none⟩ = some (.string a0_5) := (blk_cell BK254.out 5).trans rfl; have hcz7_6 : w6.cell? ⟨gb254, 6, none⟩ = some (.slice A0_6 l0_6.length c0_6) := (blk_cell BK254.out 6).trans rfl; have hcz7_7 : w6.cell? ⟨gb254, 7, none⟩ = some (.slice A0_7 l0_7.length c0_7) := (blk_cell BK254.out 7).trans rfl; have hcz7_8 : w6.cell? ⟨gb254, 8, none⟩ = some (.bool a0_8) := (blk_cell BK254.out 8).trans rfl; have hfz7_0 := blk_frozen BK254.out 0; have hfz7_1 := blk_frozen BK254.out 1; have hfz7_2 := blk_frozen BK254.out 2; have hfz7_3 := blk_frozen BK254.out 3; have hfz7_4 := blk_frozen BK254.out 4; have hfz7_5 := blk_frozen BK254.out 5; have hfz7_6 := blk_frozen BK254.out 6; have hfz7_7 := blk_frozen BK254.out 7; have hfz7_8 := blk_frozen BK254.out 8) | ((with_reducible refine gate_callee (f := 15) rfl ?_); refine goesL_ (some 15) rfl rfl Tryz.func15 kr_ rfl #[.agg #[.slice A0_0 l0_0.length c0_0, .int .i64 a0_1, .string a0_2, .string a0_3, .string a0_4, .string a0_5, .slice A0_6 l0_6.length c0_6, .slice A0_7 l0_7.length c0_7, .bool a0_8]] rfl rl_ ?_; (with_reducible refine (tolllaw07_cut.calls k _ _ l0_0 a0_1 a0_2 a0_3 a0_4 a0_5 _ _ l0_6 _ _ l0_7 a0_8 t255 t258 t259 t260 t261 t262 t263 t266 t269 _ ?side1 ?side2 ?side3 ?side4 ?side5 ?side6 A3.out).mono ?_); (case side1 => exact C_ (Kd.C_below HR0_0.out HB.out)); (case side2 => exact HC0_0.out); (case side3 => exact C_ (Kd.C_below HR0_6.out HB.out)); (case side4 => exact HC0_6.out); (case side5 => exact C_ (Kd.C_below HR0_7.out HB.out)); (case side6 => exact HC0_7.out); rintro e w8 ⟨v256, v264, v267, rfl, ho0, ho1, ho2, hb⟩; refine ⟨_, rfl, ?_⟩; have n0_ := am_ (Kd.R_lower ho0 (below_size (bel_ HB.out))); have n1_ := am_ (Kd.R_lower ho1 (below_size (bel_ HB.out))); have n2_ := am_ (Kd.R_lower ho2 (below_size (bel_ HB.out))); have n3_ := am_ (blk_below (g := gb254) (o := .cells #[.slice A0_0 l0_0.length c0_0, .int .i64 a0_1, .string a0_2, .string a0_3, .string a0_4, .string a0_5, .slice A0_6 l0_6.length c0_6, .slice A0_7 l0_7.length c0_7, .bool a0_8] 35 (0, 0)) (blk_ BK254.out) hb); have n4_ := am_ (below_step (bel_ HB.out) hb); clear BK254 HB; have HO257 := n0_; have HO265 := n1_; have HO268 := n2_; have BK254 := n3_; have HB := n4_; clear n0_ n1_ n2_ n3_ n4_; (try clear hb); (try clear hb2); (try clear hk); (try clear hi); (try clear ho0); (try clear ho1); (try clear ho2); obtain ⟨Ao9, co9, eo9⟩ := Kd.R_slice HO257.out; subst eo9; have hcz10_0 : w8.cell? ⟨gb254, 0, none⟩ = some (.slice A0_0 l0_0.length c0_0) := (blk_cell BK254.out 0).trans rfl; have hcz10_1 : w8.cell? ⟨gb254, 1, none⟩ = some (.int .i64 a0_1) := (blk_cell BK254.out 1).trans rfl; have hcz10_2 : w8.cell? ⟨gb254, 2, none⟩ = some (.string a0_2) := (blk_cell BK254.out 2).trans rfl; have hcz10_3 : w8.cell? ⟨gb254, 3, none⟩ = some (.string a0_3) := (blk_cell BK254.out 3).trans rfl; have hcz10_4 : w8.cell? ⟨gb254, 4, none⟩ = some (.string a0_4) := (blk_cell BK254.out 4).trans rfl; have hcz10_5 : w8.cell? ⟨gb254, 5, none⟩ = some (.string a0_5) := (blk_cell BK254.out 5).trans rfl; have hcz10_6 : w8.cell? ⟨gb254, 6, none⟩ = some (.slice A0_6 l0_6.length c0_6) := (blk_cell BK254.out 6).trans rfl; have hcz10_7 : w8.cell? ⟨gb254, 7, none⟩ = some (.slice A0_7 l0_7.length c0_7) := (blk_cell BK254.out 7).trans rfl; have hcz10_8 : w8.cell? ⟨gb254, 8, none⟩ = some (.bool a0_8) := (blk_cell BK254.out 8).trans rfl; have hfz10_0 := blk_frozen BK254.out 0; have hfz10_1 := blk_frozen BK254.out 1; have hfz10_2 := blk_frozen BK254.out 2; have hfz10_3 := blk_frozen BK254.out 3; have hfz10_4 := blk_frozen BK254.out 4; have hfz10_5 := blk_frozen BK254.out 5; have hfz10_6 := blk_frozen BK254.out 6; have hfz10_7 := blk_frozen BK254.out 7; have hfz10_8 := blk_frozen BK254.out 8; obtain ⟨Ao11, co11, eo11⟩ := Kd.R_slice HO265.out; subst eo11; obtain ⟨Ao12, co12, eo12⟩ := Kd.R_slice HO268.out; subst eo12) | ((with_reducible refine gate_callee (f := 19) rfl ?_); refine goesL_ (some 25) rfl rfl Tryz.func19 kr_ rfl #[.slice Ao9 t255.length co9, .agg #[.int .i64 t258, .string t259], .agg #[.string t260, .string t261, .string t262, .slice Ao11 t263.length co11, .slice Ao12 t266.length co12], .bool t269] rfl rl_ ?_; (with_reducible refine (filter_Away.calls k _ _ t255 t258 t259 t260 t261 t262 _ _ t263 _ _ t266 t269 t270 t271 t272 _ ?side1 ?side2 ?side3 ?side4 ?side5 ?side6 (gm_ HGL.out (bel_ HB.out)) A4.out).mono ?_); (case side1 => refine (Kd.R_reads' (e := 26) (base := w.heap.size) (ok := fun k_ => True) (n := t255.length) (c := co9) ?_).2.2; exact (by (with_reducible repeat (first | apply Kd.R_alloc | apply Kd.R_drewN | apply Kd.R_drew)); exact (Kd.R_mono (Kd.R_far (p := ⟨gb254, 8, none⟩) (Kd.R_far (p := ⟨gb254, 7, none⟩) (Kd.R_far (p := ⟨gb254, 6, none⟩) (Kd.R_far (p := ⟨gb254, 5, none⟩) (Kd.R_far (p := ⟨gb254, 4, none⟩) (Kd.R_far (p := ⟨gb254, 3, none⟩) (Kd.R_far (p := ⟨gb254, 2, none⟩) (Kd.R_far (p := ⟨gb254, 1, none⟩) (Kd.R_far (p := ⟨gb254, 0, none⟩) (Kd.R_types HO257.out BK254.out (by decide)) (fun _ hk => hk.2) (.slice Ao9 t255.length co9)) (fun _ hk => hk.2) (.int .i64 t258)) (fun _ hk => hk.2) (.string t259)) (fun _ hk => hk.2) (.string t260)) (fun _ hk => hk.2) (.string t261)) (fun _ hk => hk.2) (.string t262)) (fun _ hk => hk.2) (.slice Ao11 t263.length co11)) (fun _ hk => hk.2) (.slice Ao12 t266.length co12)) (fun _ hk => hk.2) (.bool t269)) (fun _ h_ => h_.1)))); (case side2 => exact (Kd.R_reads' HO257.out).2.1); (case side3 => refine (Kd.R_reads' (e := 59) (base := w.heap.size) (ok := fun k_ => some k_ ≠ (.slice Ao12 t266.length co12 : Value).ownBlock) (n := t263.length) (c := co11) ?_).2.2; exact (by (with_reducible repeat (first | apply Kd.R_alloc | apply Kd.R_drewN | apply Kd.R_drew)); exact (Kd.R_mono (Kd.R_far (p := ⟨gb254, 8, none⟩) (Kd.R_far (p := ⟨gb254, 7, none⟩) (Kd.R_far (p := ⟨gb254, 6, none⟩) (Kd.R_far (p := ⟨gb254, 5, none⟩) (Kd.R_far (p := ⟨gb254, 4, none⟩) (Kd.R_far (p := ⟨gb254, 3, none⟩) (Kd.R_far (p := ⟨gb254, 2, none⟩) (Kd.R_far (p := ⟨gb254, 1, none⟩) (Kd.R_far (p := ⟨gb254, 0, none⟩) (Kd.R_types HO265.out BK254.out (by decide)) (fun _ hk => hk.2) (.slice Ao9 t255.length co9)) (fun _ hk => hk.2) (.int .i64 t258)) (fun _ hk => hk.2) (.string t259)) (fun _ hk => hk.2) (.string t260)) (fun _ hk => hk.2) (.string t261)) (fun _ hk => hk.2) (.string t262)) (fun _ hk => hk.2) (.slice Ao11 t263.length co11)) (fun _ hk => hk.2) (.slice Ao12 t266.length co12)) (fun _ hk => hk.2) (.bool t269)) (fun _ h_ => h_.1)))); (case side4 => exact (Kd.R_reads' HO265.out).2.1); (case side5 => refine (Kd.R_reads' (e := 59) (base := w.heap.size) (ok := fun k_ => some k_ ≠ (.slice Ao11 t263.length co11 : Value).ownBlock) (n := t266.length) (c := co12) ?_).2.2; exact (by (with_reducible repeat (first | apply Kd.R_alloc | apply Kd.R_drewN | apply Kd.R_drew)); exact (Kd.R_mono (Kd.R_far (p := ⟨gb254, 8, none⟩) (Kd.R_far (p := ⟨gb254, 7, none⟩) (Kd.R_far (p := ⟨gb254, 6, none⟩) (Kd.R_far (p := ⟨gb254, 5, none⟩) (Kd.R_far (p := ⟨gb254, 4, none⟩) (Kd.R_far (p := ⟨gb254, 3, none⟩) (Kd.R_far (p := ⟨gb254, 2, none⟩) (Kd.R_far (p := ⟨gb254, 1, none⟩) (Kd.R_far (p := ⟨gb254, 0, none⟩) (Kd.R_types HO268.out BK254.out (by decide)) (fun _ hk => hk.2) (.slice Ao9 t255.length co9)) (fun _ hk => hk.2) (.int .i64 t258)) (fun _ hk => hk.2) (.string t259)) (fun _ hk => hk.2) (.string t260)) (fun _ hk => hk.2) (.string t261)) (fun _ hk => hk.2) (.string t262)) (fun _ hk => hk.2) (.slice Ao11 t263.length co11)) (fun _ hk => hk.2) (.slice Ao12 t266.length co12)) (fun _ hk => hk.2) (.bool t269)) (fun _ h_ => h_.1)))); (case side6 => exact (Kd.R_reads' HO268.out).2.1); rintro e w13 ⟨rfl, hb⟩; refine ⟨_, rfl, ?_⟩; have n0_ := am_ (Kd.R_below (by (with_reducible repeat (first | apply Kd.R_alloc | apply Kd.R_drewN | apply Kd.R_drew)); exact (Kd.R_mono (Kd.R_far (p := ⟨gb254, 8, none⟩) (Kd.R_far (p := ⟨gb254, 7, none⟩) (Kd.R_far (p := ⟨gb254, 6, none⟩) (Kd.R_far (p := ⟨gb254, 5, none⟩) (Kd.R_far (p := ⟨gb254, 4, none⟩) (Kd.R_far (p := ⟨gb254, 3, none⟩) (Kd.R_far (p := ⟨gb254, 2, none⟩) (Kd.R_far (p := ⟨gb254, 1, none⟩) (Kd.R_far (p := ⟨gb254, 0, none⟩) (Kd.R_types HO257.out BK254.out (by decide)) (fun _ hk => hk.2) (.slice Ao9 t255.length co9)) (fun _ hk => hk.2) (.int .i64 t258)) (fun _ hk => hk.2) (.string t259)) (fun _ hk => hk.2) (.string t260)) (fun _ hk => hk.2) (.string t261)) (fun _ hk => hk.2) (.string t262)) (fun _ hk => hk.2) (.slice Ao11 t263.length co11)) (fun _ hk => hk.2) (.slice Ao12 t266.length co12)) (fun _ hk => hk.2) (.bool t269)) (fun _ h_ => h_.1))) hb); have n1_ := am_ (Kd.R_below (by (with_reducible repeat (first | apply Kd.R_alloc | apply Kd.R_drewN | apply Kd.R_drew)); exact (Kd.R_mono (Kd.R_far (p := ⟨gb254, 8, none⟩) (Kd.R_far (p := ⟨gb254, 7, none⟩) (Kd.R_far (p := ⟨gb254, 6, none⟩) (Kd.R_far (p := ⟨gb254, 5, none⟩) (Kd.R_far (p := ⟨gb254, 4, none⟩) (Kd.R_far (p := ⟨gb254, 3, none⟩) (Kd.R_far (p := ⟨gb254, 2, none⟩) (Kd.R_far (p := ⟨gb254, 1, none⟩) (Kd.R_far (p := ⟨gb254, 0, none⟩) (Kd.R_types HO265.out BK254.out (by decide)) (fun _ hk => hk.2) (.slice Ao9 t255.length co9)) (fun _ hk => hk.2) (.int .i64 t258)) (fun _ hk => hk.2) (.string t259)) (fun _ hk => hk.2) (.string t260)) (fun _ hk => hk.2) (.string t261)) (fun _ hk => hk.2) (.string t262)) (fun _ hk => hk.2) (.slice Ao11 t263.length co11)) (fun _ hk => hk.2) (.slice Ao12 t266.length co12)) (fun _ hk => hk.2) (.bool t269)) (fun _ h_ => h_.1))) hb); have n2_ := am_ (Kd.R_below (by (with_reducible repeat (first | apply Kd.R_alloc | apply Kd.R_drewN | apply Kd.R_drew)); exact (Kd.R_mono (Kd.R_far (p := ⟨gb254, 8, none⟩) (Kd.R_far (p := ⟨gb254, 7, none⟩) (Kd.R_far (p := ⟨gb254, 6, none⟩) (Kd.R_far (p := ⟨gb254, 5, none⟩) (Kd.R_far (p := ⟨gb254, 4, none⟩) (Kd.R_far (p := ⟨gb254, 3, none⟩) (Kd.R_far (p := ⟨gb254, 2, none⟩) (Kd.R_far (p := ⟨gb254, 1, none⟩) (Kd.R_far (p := ⟨gb254, 0, none⟩) (Kd.R_types HO268.out BK254.out (by decide)) (fun _ hk => hk.2) (.slice Ao9 t255.length co9)) (fun _ hk => hk.2) (.int .i64 t258)) (fun _ hk => hk.2) (.string t259)) (fun _ hk => hk.2) (.string t260)) (fun _ hk => hk.2) (.string t261)) (fun _ hk => hk.2) (.string t262)) (fun _ hk => hk.2) (.slice Ao11 t263.length co11)) (fun _ hk => hk.2) (.slice Ao12 t266.length co12)) (fun _ hk => hk.2) (.bool t269)) (fun _ h_ => h_.1))) hb); have n3_ := am_ (blk_below (g := gb254) (o := .cells #[.slice Ao9 t255.length co9, .int .i64 t258, .string t259, .string t260, .string t261, .string t262, .slice Ao11 t263.length co11, .slice Ao12 t266.length co12, .bool t269] 35 (0, 0)) (by (with_reducible repeat (first | refine blk_drewN ?_ _ | refine blk_drew ?_ | refine blk_alloc ?_ _)); refine blk_put (cs := #[.slice Ao9 t255.length co9, .int .i64 t258, .string t259, .string t260, .string t261, .string t262, .slice Ao11 t263.length co11, .slice Ao12 t266.length co12, .bool a0_8]) ?_ 8 _ rfl; (with_reducible repeat (first | refine blk_drewN ?_ _ | refine blk_drew ?_ | refine blk_alloc ?_ _)); refine blk_put (cs := #[.slice Ao9 t255.length co9, .int .i64 t258, .string t259, .string t260, .string t261, .string t262, .slice Ao11 t263.length co11, .slice A0_7 l0_7.length c0_7, .bool a0_8]) ?_ 7 _ rfl; (with_reducible repeat (first | refine blk_drewN ?_ _ | refine blk_drew ?_ | refine blk_alloc ?_ _)); refine blk_put (cs := #[.slice Ao9 t255.length co9, .int .i64 t258, .string t259, .string t260, .string t261, .string t262, .slice A0_6 l0_6.length c0_6, .slice A0_7 l0_7.length c0_7, .bool a0_8]) ?_ 6 _ rfl; (with_reducible repeat (first | refine blk_drewN ?_ _ | refine blk_drew ?_ | refine blk_alloc ?_ _)); refine blk_put (cs := #[.slice Ao9 t255.length co9, .int .i64 t258, .string t259, .string t260, .string t261, .string a0_5, .slice A0_6 l0_6.length c0_6, .slice A0_7 l0_7.length c0_7, .bool a0_8]) ?_ 5 _ rfl; (with_reducible repeat (first | refine blk_drewN ?_ _ | refine blk_drew ?_ | refine blk_alloc ?_ _)); refine blk_put (cs := #[.slice Ao9 t255.length co9, .int .i64 t258, .string t259, .string t260, .string a0_4, .string a0_5, .slice A0_6 l0_6.length c0_6, .slice A0_7 l0_7.length c0_7, .bool a0_8]) ?_ 4 _ rfl; (with_reducible repeat (first | refine blk_drewN ?_ _ | refine blk_drew ?_ | refine blk_alloc ?_ _)); refine blk_put (cs := #[.slice Ao9 t255.length co9, .int .i64 t258, .string t259, .string a0_3, .string a0_4, .string a0_5, .slice A0_6 l0_6.length c0_6, .slice A0_7 l0_7.length c0_7, .bool a0_8]) ?_ 3 _ rfl; (with_reducible repeat (first | refine blk_drewN ?_ _ | refine blk_drew ?_ | refine blk_alloc ?_ _)); refine blk_put (cs := #[.slice Ao9 t255.length co9, .int .i64 t258, .string a0_2, .string a0_3, .string a0_4, .string a0_5, .slice A0_6 l0_6.length c0_6, .slice A0_7 l0_7.length c0_7, .bool a0_8]) ?_ 2 _ rfl; (with_reducible repeat (first | refine blk_drewN ?_ _ | refine blk_drew ?_ | refine blk_alloc ?_ _)); refine blk_put (cs := #[.slice Ao9 t255.length co9, .int .i64 a0_1, .string a0_2, .string a0_3, .string a0_4, .string a0_5, .slice A0_6 l0_6.length c0_6, .slice A0_7 l0_7.length c0_7, .bool a0_8]) ?_ 1 _ rfl; (with_reducible repeat (first | refine blk_drewN ?_ _ | refine blk_drew ?_ | refine blk_alloc ?_ _)); refine blk_put (cs := #[.slice A0_0 l0_0.length c0_0, .int .i64 a0_1, .string a0_2, .string a0_3, .string a0_4, .string a0_5, .slice A0_6 l0_6.length c0_6, .slice A0_7 l0_7.length c0_7, .bool a0_8]) ?_ 0 _ rfl; (with_reducible repeat (first | refine blk_drewN ?_ _ | refine blk_drew ?_ | refine blk_alloc ?_ _)); exact BK254.out) hb); have n4_ := am_ (below_step (bel_ HB.out) hb); clear HO257 HO265 HO268 BK254 HB; have HO257 := n0_; have HO265 := n1_; have HO268 := n2_; have BK254 := n3_; have HB := n4_; clear n0_ n1_ n2_ n3_ n4_; (try clear hb); (try clear hb2); (try clear hk); (try clear hi)) | ((with_reducible refine gate_dst (N := 5) rfl ?_); (try (refine gate_guard (by rfl) ?_; dsimp only)); refine box_event ?hg (N := 5) ?hd (cs := #[.int .i64 0, .string (⟨#[]⟩ : ByteArray)]) (t := 44) ?hr ?_; (case hd => rfl); (case hg => rfl); (case hr => first | (go_simp; done) | (go_simp; rfl)); intro gb273 hg w14 hbox hb; have n0_ := am_ (Kd.R_below (R_ HO257.out) hb); have n1_ := am_ (Kd.R_below (R_ HO265.out) hb); have n2_ := am_ (Kd.R_below (R_ HO268.out) hb); have n3_ := am_ (blk_below (g := gb254) (o := .cells #[.slice Ao9 t255.length co9, .int .i64 t258, .string t259, .string t260, .string t261, .string t262, .slice Ao11 t263.length co11, .slice Ao12 t266.length co12, .bool t269] 35 (0, 0)) (blk_ BK254.out) hb); have n4_ := am_ (below_step (bel_ HB.out) hb); have n5_ := am_ (hbox); have n6_ := am_ ((by rw [hg]; exact (below_size (bel_ HB.out)) : w.heap.size ≤ gb273)); have n7_ := am_ ((by rw [hg]; exact (below_size (bel_ HB.out)) : w.heap.size ≤ gb273)); have n8_ := am_ ((by rw [hg]; exact Nat.ne_of_lt (blk_lt (g := gb254) (o := .cells #[.slice Ao9 t255.length co9, .int .i64 t258, .string t259, .string t260, .string t261, .string t262, .slice Ao11 t263.length co11, .slice Ao12 t266.length co12, .bool t269] 35 (0, 0)) (blk_ BK254.out)) : gb254 ≠ gb273)); have n9_ := am_ ((by rw [hg]; exact Nat.ne_of_gt (blk_lt (g := gb254) (o := .cells #[.slice Ao9 t255.length co9, .int .i64 t258, .string t259, .string t260, .string t261, .string t262, .slice Ao11 t263.length co11, .slice Ao12 t266.length co12, .bool t269] 35 (0, 0)) (blk_ BK254.out)) : gb273 ≠ gb254)); clear HO257 HO265 HO268 BK254 HB; have HO257 := n0_; have HO265 := n1_; have HO268 := n2_; have BK254 := n3_; have HB := n4_; have BK273 := n5_; have GW273 := n6_; have GE273 := n7_; have NB254_273 := n8_; have NB273_254 := n9_; clear n0_ n1_ n2_ n3_ n4_ n5_ n6_ n7_ n8_ n9_ hb hbox hg; have hnb15 := NB273_254.out; have hnc15 := NB254_273.out; have hcz16_0 : w14.cell? ⟨gb273, 0, none⟩ = some (.int .i64 0) := (blk_cell BK273.out 0).trans rfl; have hcz16_1 : w14.cell? ⟨gb273, 1, none⟩ = some (.string (⟨#[]⟩ : ByteArray)) := (blk_cell BK273.out 1).trans rfl; have hfz16_0 := blk_frozen BK273.out 0; have hfz16_1 := blk_frozen BK273.out 1; have hcz17_0 : w14.cell? ⟨gb254, 0, none⟩ = some (.slice Ao9 t255.length co9) := (blk_cell BK254.out 0).trans rfl; have hcz17_1 : w14.cell? ⟨gb254, 1, none⟩ = some (.int .i64 t258) := (blk_cell BK254.out 1).trans rfl; have hcz17_2 : w14.cell? ⟨gb254, 2, none⟩ = some (.string t259) := (blk_cell BK254.out 2).trans rfl; have hcz17_3 : w14.cell? ⟨gb254, 3, none⟩ = some (.string t260) := (blk_cell BK254.out 3).trans rfl; have hcz17_4 : w14.cell? ⟨gb254, 4, none⟩ = some (.string t261) := (blk_cell BK254.out 4).trans rfl; have hcz17_5 : w14.cell? ⟨gb254, 5, none⟩ = some (.string t262) := (blk_cell BK254.out 5).trans rfl; have hcz17_6 : w14.cell? ⟨gb254, 6, none⟩ = some (.slice Ao11 t263.length co11) := (blk_cell BK254.out 6).trans rfl; have hcz17_7 : w14.cell? ⟨gb254, 7, none⟩ = some (.slice Ao12 t266.length co12) := (blk_cell BK254.out 7).trans rfl; have hcz17_8 : w14.cell? ⟨gb254, 8, none⟩ = some (.bool t269) := (blk_cell BK254.out 8).trans rfl; have hfz17_0 := blk_frozen BK254.out 0; have hfz17_1 := blk_frozen BK254.out 1; have hfz17_2 := blk_frozen BK254.out 2; have hfz17_3 := blk_frozen BK254.out 3; have hfz17_4 := blk_frozen BK254.out 4; have hfz17_5 := blk_frozen BK254.out 5; have hfz17_6 := blk_frozen BK254.out 6; have hfz17_7 := blk_frozen BK254.out 7; have hfz17_8 := blk_frozen BK254.out 8) | ((with_reducible refine gate_dst (N := 7) rfl ?_); (try (refine gate_guard (by rfl) ?_; dsimp only)); refine box_event ?hg (N := 7) ?hd (cs := #[.string (⟨#[]⟩ : ByteArray), .string (⟨#[]⟩ : ByteArray), .string (⟨#[]⟩ : ByteArray), .slice none 0 0, .slice none 0 0]) (t := 33) ?hr ?_; (case hd => rfl); (case hg => rfl); (case hr => first | (go_simp; done) | (go_simp; rfl)); intro gb274 hg w18 hbox hb; have n0_ := am_ (Kd.R_below (by (with_reducible repeat (first | apply Kd.R_alloc | apply Kd.R_drewN | apply Kd.R_drew)); exact (Kd.R_mono (Kd.R_far (p := ⟨gb273, 1, none⟩) (Kd.R_far (p := ⟨gb273, 0, none⟩) (Kd.R_types HO257.out BK273.out (by decide)) (fun _ hk => hk.2) (.int .i64 t270)) (fun _ hk => hk.2) (.string t271)) (fun _ h_ => h_.1))) hb); have n1_ := am_ (Kd.R_below (by (with_reducible repeat (first | apply Kd.R_alloc | apply Kd.R_drewN | apply Kd.R_drew)); exact (Kd.R_mono (Kd.R_far (p := ⟨gb273, 1, none⟩) (Kd.R_far (p := ⟨gb273, 0, none⟩) (Kd.R_types HO265.out BK273.out (by decide)) (fun _ hk => hk.2) (.int .i64 t270)) (fun _ hk => hk.2) (.string t271)) (fun _ h_ => h_.1))) hb); have n2_ := am_ (Kd.R_below (by (with_reducible repeat (first | apply Kd.R_alloc | apply Kd.R_drewN | apply Kd.R_drew)); exact (Kd.R_mono (Kd.R_far (p := ⟨gb273, 1, none⟩) (Kd.R_far (p := ⟨gb273, 0, none⟩) (Kd.R_types HO268.out BK273.out (by decide)) (fun _ hk => hk.2) (.int .i64 t270)) (fun _ hk => hk.2) (.string t271)) (fun _ h_ => h_.1))) hb); have n3_ := am_ (blk_below (g := gb254) (o := .cells #[.slice Ao9 t255.length co9, .int .i64 t258, .string t259, .string t260, .string t261, .string t262, .slice Ao11 t263.length co11, .slice Ao12 t266.length co12, .bool t269] 35 (0, 0)) (by (with_reducible repeat (first | refine blk_drewN ?_ _ | refine blk_drew ?_ | refine blk_alloc ?_ _)); refine blk_far ?_ NB254_273.out _; (with_reducible repeat (first | refine blk_drewN ?_ _ | refine blk_drew ?_ | refine blk_alloc ?_ _)); refine blk_far ?_ NB254_273.out _; (with_reducible repeat (first | refine blk_drewN ?_ _ | refine blk_drew ?_ | refine blk_alloc ?_ _)); exact BK254.out) hb); have n4_ := am_ (blk_below (g := gb273) (o := .cells #[.int .i64 t270, .string t271] 44 (0, 0)) (by (with_reducible repeat (first | refine blk_drewN ?_ _ | refine blk_drew ?_ | refine blk_alloc ?_ _)); refine blk_put (cs := #[.int .i64 t270, .string (⟨#[]⟩ : ByteArray)]) ?_ 1 _ rfl; (with_reducible repeat (first | refine blk_drewN ?_ _ | refine blk_drew ?_ | refine blk_alloc ?_ _)); refine blk_put (cs := #[.int .i64 0, .string (⟨#[]⟩ : ByteArray)]) ?_ 0 _ rfl; (with_reducible repeat (first | refine blk_drewN ?_ _ | refine blk_drew ?_ | refine blk_alloc ?_ _)); exact BK273.out) hb); have n5_ := am_ (below_step (bel_ HB.out) hb); have n6_ := am_ (hbox); have n7_ := am_ ((by rw [hg]; exact (below_size (bel_ HB.out)) : w.heap.size ≤ gb274)); have n8_ := am_ ((by rw [hg]; exact (below_size (bel_ HB.out)) : w.heap.size ≤ gb274)); have n9_ := am_ ((by rw [hg]; exact Nat.ne_of_lt (blk_lt (g := gb254) (o := .cells #[.slice Ao9 t255.length co9, .int .i64 t258, .string t259, .string t260, .string t261, .string t262, .slice Ao11 t263.length co11, .slice Ao12 t266.length co12, .bool t269] 35 (0, 0)) (by (with_reducible repeat (first | refine blk_drewN ?_ _ | refine blk_drew ?_ | refine blk_alloc ?_ _)); refine blk_far ?_ NB254_273.out _; (with_reducible repeat (first | refine blk_drewN ?_ _ | refine blk_drew ?_ | refine blk_alloc ?_ _)); refine blk_far ?_ NB254_273.out _; (with_reducible repeat (first | refine blk_drewN ?_ _ | refine blk_drew ?_ | refine blk_alloc ?_ _)); exact BK254.out)) : gb254 ≠ gb274)); have n10_ := am_ ((by rw [hg]; exact Nat.ne_of_gt (blk_lt (g := gb254) (o := .cells #[.slice Ao9 t255.length co9, .int .i64 t258, .string t259, .string t260, .string t261, .string t262, .slice Ao11 t263.length co11, .slice Ao12 t266.length co12, .bool t269] 35 (0, 0)) (by (with_reducible repeat (first | refine blk_drewN ?_ _ | refine blk_drew ?_ | refine blk_alloc ?_ _)); refine blk_far ?_ NB254_273.out _; (with_reducible repeat (first | refine blk_drewN ?_ _ | refine blk_drew ?_ | refine blk_alloc ?_ _)); refine blk_far ?_ NB254_273.out _; (with_reducible repeat (first | refine blk_drewN ?_ _ | refine blk_drew ?_ | refine blk_alloc ?_ _)); exact BK254.out)) : gb274 ≠ gb254)); have n11_ := am_ ((by rw [hg]; exact Nat.ne_of_lt (blk_lt (g := gb273) (o := .cells #[.int .i64 t270, .string t271] 44 (0, 0)) (by (with_reducible repeat (first | refine blk_drewN ?_ _ | refine blk_drew ?_ | refine blk_alloc ?_ _)); refine blk_put (cs := #[.int .i64 t270, .string (⟨#[]⟩ : ByteArray)]) ?_ 1 _ rfl; (with_reducible repeat (first | refine blk_drewN ?_ _ | refine blk_drew ?_ | refine blk_alloc ?_ _)); refine blk_put (cs := #[.int .i64 0, .string (⟨#[]⟩ : ByteArray)]) ?_ 0 _ rfl; (with_reducible repeat (first | refine blk_drewN ?_ _ | refine blk_drew ?_ | refine blk_alloc ?_ _)); exact BK273.out)) : gb273 ≠ gb274)); have n12_ := am_ ((by rw [hg]; exact Nat.ne_of_gt (blk_lt (g := gb273) (o := .cells #[.int .i64 t270, .string t271] 44 (0, 0)) (by (with_reducible repeat (first | refine blk_drewN ?_ _ | refine blk_drew ?_ | refine blk_alloc ?_ _)); refine blk_put (cs := #[.int .i64 t270, .string (⟨#[]⟩ : ByteArray)]) ?_ 1 _ rfl; (with_reducible repeat (first | refine blk_drewN ?_ _ | refine blk_drew ?_ | refine blk_alloc ?_ _)); refine blk_put (cs := #[.int .i64 0, .string (⟨#[]⟩ : ByteArray)]) ?_ 0 _ rfl; (with_reducible repeat (first | refine blk_drewN ?_ _ | refine blk_drew ?_ | refine blk_alloc ?_ _)); exact BK273.out)) : gb274 ≠ gb273)); clear HO257 HO265 HO268 BK254 BK273 HB; have HO257 := n0_; have HO265 := n1_; have HO268 := n2_; have BK254 := n3_; have BK273 := n4_; have HB := n5_; have BK274 := n6_; have GW274 := n7_; have GE274 := n8_; have NB254_274 := n9_; have NB274_254 := n10_; have NB273_274 := n11_; have NB274_273 := n12_; clear n0_ n1_ n2_ n3_ n4_ n5_ n6_ n7_ n8_ n9_ n10_ n11_ n12_ hb hbox hg; have hnb19 := NB274_254.out; have hnc19 := NB254_274.out; have hnb20 := NB274_273.out; have hnc20 := NB273_274.out; have hcz21_0 : w18.cell? ⟨gb274, 0, none⟩ = some (.string (⟨#[]⟩ : ByteArray)) := (blk_cell BK274.out 0).trans rfl; have hcz21_1 : w18.cell? ⟨gb274, 1, none⟩ = some (.string (⟨#[]⟩ : ByteArray)) := (blk_cell BK274.out 1).trans rfl; have hcz21_2 : w18.cell? ⟨gb274, 2, none⟩ = some (.string (⟨#[]⟩ : ByteArray)) := (blk_cell BK274.out 2).trans rfl; have hcz21_3 : w18.cell? ⟨gb274, 3, none⟩ = some (.slice none 0 0) := (blk_cell BK274.out 3).trans rfl; have hcz21_4 : w18.cell? ⟨gb274, 4, none⟩ = some (.slice none 0 0) := (blk_cell BK274.out 4).trans rfl; have hfz21_0 := blk_frozen BK274.out 0; have hfz21_1 := blk_frozen BK274.out 1; have hfz21_2 := blk_frozen BK274.out 2; have hfz21_3 := blk_frozen BK274.out 3; have hfz21_4 := blk_frozen BK274.out 4))
 (try simp only [Act.put, List.setIfInBounds_toArray, List.set_cons_zero, List.set_cons_succ])
 go_cut [] (fun wc => ∃ (kq : Nat) (x275004_4 : List (S59)) (u275004 : Value), Aside0 (tolllaw07_FilterAways.j1 kq t272 t255 t258 t259 t260 t261 t262 t263 t266 t269 t270 t271 t260 t261 t262 t263 x275004_4 = some r) ∧ Aside0 (kq ≤ k) ∧ Aside0 (Kd.R k26 26 wc w.heap.size (fun _ => True) (.slice Ao9 t255.length co9) t255) ∧ Aside0 (Kd.R k59 59 wc w.heap.size (fun k_ => some k_ ≠ ((.slice Ao12 t266.length co12) : Value).ownBlock ∧ some k_ ≠ (u275004 : Value).ownBlock) (.slice Ao11 t263.length co11) t263) ∧ Aside0 (Kd.R k59 59 wc w.heap.size (fun k_ => some k_ ≠ ((.slice Ao11 t263.length co11) : Value).ownBlock ∧ some k_ ≠ ((.slice Ao11 t263.length co11) : Value).ownBlock ∧ some k_ ≠ (u275004 : Value).ownBlock) (.slice Ao12 t266.length co12) t266) ∧ Aside0 (Kd.R k59 59 wc w.heap.size (fun k_ => some k_ ≠ ((.slice Ao12 t266.length co12) : Value).ownBlock ∧ some k_ ≠ (u275004 : Value).ownBlock) (.slice Ao11 t263.length co11) t263) ∧ Aside0 (Kd.R k59 59 wc w.heap.size (fun k_ => some k_ ≠ ((.slice Ao11 t263.length co11) : Value).ownBlock ∧ some k_ ≠ ((.slice Ao12 t266.length co12) : Value).ownBlock ∧ some k_ ≠ ((.slice Ao11 t263.length co11) : Value).ownBlock) u275004 x275004_4) ∧ Aside0 (wc.heap[gb254]? = some (.cells #[(.slice Ao9 t255.length co9), .int .i64 t258, .string t259, .string t260, .string t261, .string t262, (.slice Ao11 t263.length co11), (.slice Ao12 t266.length co12), .bool t269] 35 (0, 0))) ∧ Aside0 (wc.heap[gb273]? = some (.cells #[.int .i64 t270, .string t271] 44 (0, 0))) ∧ Aside0 (wc.heap[gb274]? = some (.cells #[.string t260, .string t261, .string t262, (.slice Ao11 t263.length co11), u275004] 33 (0, 0))) ∧ Aside0 (Below w.heap.size w wc))
 case first =>
  have H := HC5.out
  clear HC5
  have H' := Aside0.mk H
  clear H
  go_wp2
  go_loopg [8] k (fun kq v8 w' => ∃ (x8_1 : Int) (x275004_1 : List (S59)) (u275004 : Value), v8 = .int .i64 x8_1 ∧ Aside0 (tolllaw07_FilterAways.l0 kq l1 t272 x8_1 t255 t258 t259 t260 t261 t262 t263 t266 t269 t270 t271 t260 t261 t262 t263 x275004_1 = some r) ∧ Aside0 (kq ≤ k) ∧ Aside0 (Kd.R k26 26 w' w.heap.size (fun _ => True) (.slice Ao9 t255.length co9) t255) ∧ Aside0 (Kd.R k59 59 w' w.heap.size (fun k_ => some k_ ≠ ((.slice Ao12 t266.length co12) : Value).ownBlock ∧ some k_ ≠ (u275004 : Value).ownBlock) (.slice Ao11 t263.length co11) t263) ∧ Aside0 (Kd.R k59 59 w' w.heap.size (fun k_ => some k_ ≠ ((.slice Ao11 t263.length co11) : Value).ownBlock ∧ some k_ ≠ ((.slice Ao11 t263.length co11) : Value).ownBlock ∧ some k_ ≠ (u275004 : Value).ownBlock) (.slice Ao12 t266.length co12) t266) ∧ Aside0 (Kd.R k59 59 w' w.heap.size (fun k_ => some k_ ≠ ((.slice Ao12 t266.length co12) : Value).ownBlock ∧ some k_ ≠ (u275004 : Value).ownBlock) (.slice Ao11 t263.length co11) t263) ∧ Aside0 (Kd.R k59 59 w' w.heap.size (fun k_ => some k_ ≠ ((.slice Ao11 t263.length co11) : Value).ownBlock ∧ some k_ ≠ ((.slice Ao12 t266.length co12) : Value).ownBlock ∧ some k_ ≠ ((.slice Ao11 t263.length co11) : Value).ownBlock) u275004 x275004_1) ∧ Aside0 (w'.heap[gb254]? = some (.cells #[(.slice Ao9 t255.length co9), .int .i64 t258, .string t259, .string t260, .string t261, .string t262, (.slice Ao11 t263.length co11), (.slice Ao12 t266.length co12), .bool t269] 35 (0, 0))) ∧ Aside0 (w'.heap[gb273]? = some (.cells #[.int .i64 t270, .string t271] 44 (0, 0))) ∧ Aside0 (w'.heap[gb274]? = some (.cells #[.string t260, .string t261, .string t262, (.slice Ao11 t263.length co11), u275004] 33 (0, 0))) ∧ Aside0 (Below w.heap.size w w'))
  case atStart => exact ⟨(0), (([] : List (S59))), (.slice none 0 0), sd_, H', ⟨Nat.le_refl _⟩, ⟨by (with_reducible repeat (first | apply Kd.R_alloc | apply Kd.R_drewN | apply Kd.R_drew)); exact Kd.R_mono (Kd.R_far (p := ⟨gb274, 4, none⟩) (Kd.R_far (p := ⟨gb274, 4, none⟩) (Kd.R_far (p := ⟨gb274, 3, none⟩) (Kd.R_far (p := ⟨gb274, 2, none⟩) (Kd.R_far (p := ⟨gb274, 1, none⟩) (Kd.R_far (p := ⟨gb274, 0, none⟩) (Kd.R_types HO257.out BK274.out (by decide)) (fun _ hk => hk.2) (.string t260)) (fun _ hk => hk.2) (.string t261)) (fun _ hk => hk.2) (.string t262)) (fun _ hk => hk.2) (.slice Ao11 t263.length co11)) (fun _ hk => hk.2) (.slice Ao12 t266.length co12)) (fun _ hk => hk.2) (.slice none 0 0)) (fun _ hk => trivial)⟩, ⟨by (with_reducible repeat (first | apply Kd.R_alloc | apply Kd.R_drewN | apply Kd.R_drew)); exact Kd.R_mono (Kd.R_far (p := ⟨gb274, 4, none⟩) (Kd.R_far (p := ⟨gb274, 4, none⟩) (Kd.R_far (p := ⟨gb274, 3, none⟩) (Kd.R_far (p := ⟨gb274, 2, none⟩) (Kd.R_far (p := ⟨gb274, 1, none⟩) (Kd.R_far (p := ⟨gb274, 0, none⟩) (Kd.R_types HO265.out BK274.out (by decide)) (fun _ hk => hk.2) (.string t260)) (fun _ hk => hk.2) (.string t261)) (fun _ hk => hk.2) (.string t262)) (fun _ hk => hk.2) (.slice Ao11 t263.length co11)) (fun _ hk => hk.2) (.slice Ao12 t266.length co12)) (fun _ hk => hk.2) (.slice none 0 0)) (fun _ hk => ⟨hk.1, (by simp [Value.ownBlock])⟩)⟩, ⟨by (with_reducible repeat (first | apply Kd.R_alloc | apply Kd.R_drewN | apply Kd.R_drew)); exact Kd.R_mono (Kd.R_far (p := ⟨gb274, 4, none⟩) (Kd.R_far (p := ⟨gb274, 4, none⟩) (Kd.R_far (p := ⟨gb274, 3, none⟩) (Kd.R_far (p := ⟨gb274, 2, none⟩) (Kd.R_far (p := ⟨gb274, 1, none⟩) (Kd.R_far (p := ⟨gb274, 0, none⟩) (Kd.R_types HO268.out BK274.out (by decide)) (fun _ hk => hk.2) (.string t260)) (fun _ hk => hk.2) (.string t261)) (fun _ hk => hk.2) (.string t262)) (fun _ hk => hk.2) (.slice Ao11 t263.length co11)) (fun _ hk => hk.2) (.slice Ao12 t266.length co12)) (fun _ hk => hk.2) (.slice none 0 0)) (fun _ hk => ⟨hk.1, ⟨hk.1, (by simp [Value.ownBlock])⟩⟩)⟩, ⟨by (with_reducible repeat (first | apply Kd.R_alloc | apply Kd.R_drewN | apply Kd.R_drew)); exact Kd.R_mono (Kd.R_far (p := ⟨gb274, 4, none⟩) (Kd.R_far (p := ⟨gb274, 4, none⟩) (Kd.R_far (p := ⟨gb274, 3, none⟩) (Kd.R_far (p := ⟨gb274, 2, none⟩) (Kd.R_far (p := ⟨gb274, 1, none⟩) (Kd.R_far (p := ⟨gb274, 0, none⟩) (Kd.R_types HO265.out BK274.out (by decide)) (fun _ hk => hk.2) (.string t260)) (fun _ hk => hk.2) (.string t261)) (fun _ hk => hk.2) (.string t262)) (fun _ hk => hk.2) (.slice Ao11 t263.length co11)) (fun _ hk => hk.2) (.slice Ao12 t266.length co12)) (fun _ hk => hk.2) (.slice none 0 0)) (fun _ hk => ⟨hk.1, (by simp [Value.ownBlock])⟩)⟩, ⟨by first | exact Kd.R_nil _ _ _ _ _ | exact Kd.N_nil _ _ _ _ _ | exact Kd.V_nil _ _ _ _ _ | exact Kd.Q_nil _ _ _ _ _ | exact Kd.S_nil _ _ _ _ _⟩, ⟨by (with_reducible repeat (first | refine blk_drewN ?_ _ | refine blk_drew ?_ | refine blk_alloc ?_ _)); refine blk_far ?_ NB254_274.out _; (with_reducible repeat (first | refine blk_drewN ?_ _ | refine blk_drew ?_ | refine blk_alloc ?_ _)); refine blk_far ?_ NB254_274.out _; (with_reducible repeat (first | refine blk_drewN ?_ _ | refine blk_drew ?_ | refine blk_alloc ?_ _)); refine blk_far ?_ NB254_274.out _; (with_reducible repeat (first | refine blk_drewN ?_ _ | refine blk_drew ?_ | refine blk_alloc ?_ _)); refine blk_far ?_ NB254_274.out _; (with_reducible repeat (first | refine blk_drewN ?_ _ | refine blk_drew ?_ | refine blk_alloc ?_ _)); refine blk_far ?_ NB254_274.out _; (with_reducible repeat (first | refine blk_drewN ?_ _ | refine blk_drew ?_ | refine blk_alloc ?_ _)); refine blk_far ?_ NB254_274.out _; (with_reducible repeat (first | refine blk_drewN ?_ _ | refine blk_drew ?_ | refine blk_alloc ?_ _)); exact BK254.out⟩, ⟨by (with_reducible repeat (first | refine blk_drewN ?_ _ | refine blk_drew ?_ | refine blk_alloc ?_ _)); refine blk_far ?_ NB273_274.out _; (with_reducible repeat (first | refine blk_drewN ?_ _ | refine blk_drew ?_ | refine blk_alloc ?_ _)); refine blk_far ?_ NB273_274.out _; (with_reducible repeat (first | refine blk_drewN ?_ _ | refine blk_drew ?_ | refine blk_alloc ?_ _)); refine blk_far ?_ NB273_274.out _; (with_reducible repeat (first | refine blk_drewN ?_ _ | refine blk_drew ?_ | refine blk_alloc ?_ _)); refine blk_far ?_ NB273_274.out _; (with_reducible repeat (first | refine blk_drewN ?_ _ | refine blk_drew ?_ | refine blk_alloc ?_ _)); refine blk_far ?_ NB273_274.out _; (with_reducible repeat (first | refine blk_drewN ?_ _ | refine blk_drew ?_ | refine blk_alloc ?_ _)); refine blk_far ?_ NB273_274.out _; (with_reducible repeat (first | refine blk_drewN ?_ _ | refine blk_drew ?_ | refine blk_alloc ?_ _)); exact BK273.out⟩, ⟨by (with_reducible repeat (first | refine blk_drewN ?_ _ | refine blk_drew ?_ | refine blk_alloc ?_ _)); refine blk_put (cs := #[.string t260, .string t261, .string t262, .slice Ao11 t263.length co11, .slice Ao12 t266.length co12]) ?_ 4 _ rfl; (with_reducible repeat (first | refine blk_drewN ?_ _ | refine blk_drew ?_ | refine blk_alloc ?_ _)); refine blk_put (cs := #[.string t260, .string t261, .string t262, .slice Ao11 t263.length co11, .slice none 0 0]) ?_ 4 _ rfl; (with_reducible repeat (first | refine blk_drewN ?_ _ | refine blk_drew ?_ | refine blk_alloc ?_ _)); refine blk_put (cs := #[.string t260, .string t261, .string t262, .slice none 0 0, .slice none 0 0]) ?_ 3 _ rfl; (with_reducible repeat (first | refine blk_drewN ?_ _ | refine blk_drew ?_ | refine blk_alloc ?_ _)); refine blk_put (cs := #[.string t260, .string t261, .string (⟨#[]⟩ : ByteArray), .slice none 0 0, .slice none 0 0]) ?_ 2 _ rfl; (with_reducible repeat (first | refine blk_drewN ?_ _ | refine blk_drew ?_ | refine blk_alloc ?_ _)); refine blk_put (cs := #[.string t260, .string (⟨#[]⟩ : ByteArray), .string (⟨#[]⟩ : ByteArray), .slice none 0 0, .slice none 0 0]) ?_ 1 _ rfl; (with_reducible repeat (first | refine blk_drewN ?_ _ | refine blk_drew ?_ | refine blk_alloc ?_ _)); refine blk_put (cs := #[.string (⟨#[]⟩ : ByteArray), .string (⟨#[]⟩ : ByteArray), .string (⟨#[]⟩ : ByteArray), .slice none 0 0, .slice none 0 0]) ?_ 0 _ rfl; (with_reducible repeat (first | refine blk_drewN ?_ _ | refine blk_drew ?_ | refine blk_alloc ?_ _)); exact BK274.out⟩, ⟨bel_ HB.out⟩⟩
  case round =>
   clear H'
   try clear c1
   try clear c2
   try clear p2
   try clear c7
   try clear c15
   try clear c19
   try clear c20
   try clear hcz10_0
   try clear hcz10_1
   try clear hcz10_2
   try clear hcz10_3
   try clear hcz10_4
   try clear hcz10_5
   try clear hcz10_6
   try clear hcz10_7
   try clear hcz10_8
   try clear hcz16_0
   try clear hcz16_1
   try clear hcz17_0
   try clear hcz17_1
   try clear hcz17_2
   try clear hcz17_3
   try clear hcz17_4
   try clear hcz17_5
   try clear hcz17_6
   try clear hcz17_7
   try clear hcz17_8
   try clear hcz21_0
   try clear hcz21_1
   try clear hcz21_2
   try clear hcz21_3
   try clear hcz21_4
   try clear hcz7_0
   try clear hcz7_1
   try clear hcz7_2
   try clear hcz7_3
   try clear hcz7_4
   try clear hcz7_5
   try clear hcz7_6
   try clear hcz7_7
   try clear hcz7_8
   try clear hfz10_0
   try clear hfz10_1
   try clear hfz10_2
   try clear hfz10_3
   try clear hfz10_4
   try clear hfz10_5
   try clear hfz10_6
   try clear hfz10_7
   try clear hfz10_8
   try clear hfz16_0
   try clear hfz16_1
   try clear hfz17_0
   try clear hfz17_1
   try clear hfz17_2
   try clear hfz17_3
   try clear hfz17_4
   try clear hfz17_5
   try clear hfz17_6
   try clear hfz17_7
   try clear hfz17_8
   try clear hfz21_0
   try clear hfz21_1
   try clear hfz21_2
   try clear hfz21_3
   try clear hfz21_4
   try clear hfz7_0
   try clear hfz7_1
   try clear hfz7_2
   try clear hfz7_3
   try clear hfz7_4
   try clear hfz7_5
   try clear hfz7_6
   try clear hfz7_7
   try clear hfz7_8
   obtain ⟨x8_1, x275004_1, u275004, rfl, HA, HK1, HO_255000, HO_255006, HO_255007, HO_275003, HO_275004, BK254, BK273, BK274, HB⟩ := hrel
   cases gk with
   | zero => exact absurd HA.out (by simp [tolllaw07_FilterAways.l0])
   | succ k1 =>
    have H := HA.out
    clear HA
    simp only [tolllaw07_FilterAways.l0] at H
    by_cases c22 : x8_1 < (l1.length : Int)
    ·rw [if_pos c22] at H
     have c22b0 : decide (x8_1 < (l1.length : Int)) = true := decide_eq_true c22
     clear c22
     (first | rw [c22b0] | rw [c22b1] | rw [c22b2] | (simp only [i64_w, i32_w]; rw [c22b0]) | skip)
     by_cases c23 : x8_1 < 5
     ·rw [if_pos c23] at H
      have c23b0 : decide (x8_1 < 5) = true := decide_eq_true c23
      clear c23
      by_cases c24 : 0 ≤ x8_1
      ·rw [if_pos c24] at H
       have c24b0 : decide (0 ≤ x8_1) = true := decide_eq_true c24
       clear c24
       by_cases c25 : x275004_1.length < 4398046511104
       ·rw [if_pos c25] at H
        have LMc25 := Aside0.mk c25
        clear c25
        obtain ⟨y276, hy276⟩ : ∃ y_ : List (S59), y_ = (x275004_1 ++ [(⟨(rd_T59 l1 x8_1).f0, (rd_T59 l1 x8_1).f1⟩ : S59)]) := ⟨_, rfl⟩
        replace H : (tolllaw07_FilterAways.l0 k1 l1 t272 (wrap64 (x8_1 + 1)) t255 t258 t259 t260 t261 t262 t263 t266 t269 t270 t271 t260 t261 t262 t263 y276) = some r := by first | (rw [hy276]; with_reducible exact H) | (have H2_ := (Option.bind_some _ _).symm.trans H; rw [hy276]; with_reducible exact H2_) | (have H2_ := (Option.bind_some _ _).symm.trans H; with_reducible exact H2_) | with_reducible exact H | (rw [hy276]; exact H) | exact H
        have Ny276 := Aside0.mk hy276
        clear hy276
        have H' := Aside0.mk H
        clear H
        try go_wp2
        have n0_ := am_ (Kd.R_drew HO_255000.out)
        have n1_ := am_ (Kd.R_drew HO_255006.out)
        have n2_ := am_ (Kd.R_drew HO_255007.out)
        have n3_ := am_ (Kd.R_drew HO_275003.out)
        have n4_ := am_ (Kd.R_drew HO_275004.out)
        have n5_ := am_ (blk_drew BK254.out)
        have n6_ := am_ (blk_drew BK273.out)
        have n7_ := am_ (blk_drew BK274.out)
        have n8_ := am_ (below_drew1 HB.out)
        clear HO_255000 HO_255006 HO_255007 HO_275003 HO_275004 BK254 BK273 BK274 HB
        have HO_255000 := n0_
        have HO_255006 := n1_
        have HO_255007 := n2_
        have HO_275003 := n3_
        have HO_275004 := n4_
        have BK254 := n5_
        have BK273 := n6_
        have BK274 := n7_
        have HB := n8_
        clear n0_ n1_ n2_ n3_ n4_ n5_ n6_ n7_ n8_
        have p275 : 0 ≤ (x8_1 : Int) := of_decide_eq_true as_
        have q275 : x8_1 < (l1.length : Int) := of_decide_eq_true as_
        obtain ⟨ad275, e275, hx275_0, hx275_1⟩ := at_T59 HR1.out x8_1 p275 q275
        have hw275_1 := hx275_1
        have hw275_0 := hx275_0
        cases e275
        replace hx275_0 := (HB.out.cell (World.block_lt_of_cell? w _ hx275_0)).trans hx275_0
        replace hx275_1 := (HB.out.cell (World.block_lt_of_cell? w _ hx275_1)).trans hx275_1
        replace p275 := eq_true p275
        replace q275 := eq_true q275
        refine start_ (n := 10) (S := fun w' => w'.cell? ⟨gb274, 0, none⟩ = some (.string t260) ∧ w'.cell? ⟨gb274, 1, none⟩ = some (.string t261) ∧ w'.cell? ⟨gb274, 2, none⟩ = some (.string t262) ∧ w'.cell? ⟨gb274, 3, none⟩ = some (.slice Ao11 t263.length co11) ∧ w'.cell? ⟨gb274, 4, none⟩ = some (u275004) ∧ w'.cell? (ad275.add ((x8_1).toNat * 2)) = some (.string ((rd_T59 l1 x8_1).f0)) ∧ w'.cell? ⟨(ad275.add ((x8_1).toNat * 2)).block, (ad275.add ((x8_1).toNat * 2)).off + 1, none⟩ = some (.string ((rd_T59 l1 x8_1).f1))) (ds := [9]) #[false, false, false, false, false, false, false, false, false, false] kr_ rfl rfl ⟨(blk_cell BK274.out 0).trans rfl, (blk_cell BK274.out 1).trans rfl, (blk_cell BK274.out 2).trans rfl, (blk_cell BK274.out 3).trans rfl, (blk_cell BK274.out 4).trans rfl, ((HB.out.cell (World.block_lt_of_cell? w _ hw275_0)).trans hw275_0), ((HB.out.cell (World.block_lt_of_cell? w _ hw275_1)).trans hw275_1)⟩ (fun hHeld => ?_); refine with_tabW tolllaw07_FilterAways.tab8 tolllaw07_FilterAways.bits8 (fun HT_ HW_ => ?_)
        generalize wr.drew = w26 at HO_255000 HO_255006 HO_255007 HO_275003 HO_275004 BK254 BK273 BK274 HB hx275_0 hx275_1 hHeld ⊢
        refine pure_ (i := 0) (N := some 41) (v := ?_) (a' := ?_) #[true, false, false, false, false, false, false, false, false, false] rfl rfl (any_of HT_.out kr_) (fun _ _ _ h => h) (Or.inl ⟨by rfl, ?_⟩) ?_ ?_
        rotate_left
        ·intro w'
         go_simp
         with_reducible rfl
        rotate_left
        ·simp only [Act.put, sx_, s0_, s1_, i64_w, i32_w]
         rfl
        refine pure_ (i := 2) (N := some 43) (v := ?_) (a' := ?_) #[true, false, true, false, false, false, false, false, false, false] rfl rfl (any_of HT_.out kr_) (fun _ _ _ h => h) (Or.inl ⟨by rfl, ?_⟩) ?_ ?_
        rotate_left
        ·intro w'
         go_simp
         with_reducible rfl
        rotate_left
        ·simp only [Act.put, sx_, s0_, s1_, i64_w, i32_w]
         rfl
        refine pure_ (i := 3) (N := some 44) (v := ?_) (a' := ?_) #[true, false, true, true, false, false, false, false, false, false] rfl rfl (any_of HT_.out kr_) (fun _ _ _ h => h) (Or.inl ⟨by rfl, ?_⟩) ?_ ?_
        rotate_left
        ·intro w'
         go_simp
         with_reducible rfl
        rotate_left
        ·simp only [Act.put, sx_, s0_, s1_, i64_w, i32_w]
         rfl
        refine pure_ (i := 4) (N := some 45) (v := ?_) (a' := ?_) #[true, false, true, true, true, false, false, false, false, false] rfl rfl (any_of HT_.out kr_) (fun _ _ _ h => h) (Or.inl ⟨by rfl, ?_⟩) ?_ ?_
        rotate_left
        ·intro w'
         go_simp
         with_reducible rfl
        rotate_left
        ·simp only [Act.put, sx_, s0_, s1_, i64_w, i32_w]
         rfl
        refine take_ (i := 1) (N := some 42) (v := ?_) (a' := ?_) #[true, true, true, true, true, false, false, false, false, false] rfl rfl (take_ofW HT_.out HW_.out kr_) (fun _ _ _ h => h) (Or.inl ⟨by rfl, ?_⟩) hHeld ?_ ?_
        rotate_left
        ·rintro w' ⟨s0, s1, s2, s3, s4, s5, s6⟩
         go_simp
         with_reducible rfl
        rotate_left
        ·simp only [Act.put, sx_, s0_, s1_, i64_w, i32_w]
         rfl
        refine take_ (i := 5) (N := some 46) (v := ?_) (a' := ?_) #[true, true, true, true, true, true, false, false, false, false] rfl rfl (take_ofW HT_.out HW_.out kr_) (fun _ _ _ h => h) (Or.inl ⟨by rfl, ?_⟩) hHeld ?_ ?_
        rotate_left
        ·rintro w' ⟨s0, s1, s2, s3, s4, s5, s6⟩
         go_simp
         with_reducible rfl
        rotate_left
        ·simp only [Act.put, sx_, s0_, s1_, i64_w, i32_w]
         rfl
        refine one_ (i := 6) (N := some 47) #[true, true, true, true, true, true, true, false, false, false] rfl rfl (one_of HT_.out kr_) (by decide) (fun K hK => ?_)
        refine value_ (w1 := ?_) (v := ?_) (by rfl) rfl ?_ ?_
        rotate_left 2
        ·go_simp
         constructor
         ·rfl
         ·rfl
        refine hK.out _ _ ⟨(blk_cell (blk_alloc BK274.out _) 0).trans rfl, (blk_cell (blk_alloc BK274.out _) 1).trans rfl, (blk_cell (blk_alloc BK274.out _) 2).trans rfl, (blk_cell (blk_alloc BK274.out _) 3).trans rfl, (blk_cell (blk_alloc BK274.out _) 4).trans rfl, (World.cell?_alloc_lt _ _ _ (World.block_lt_of_cell? _ _ (((HB.out.cell (World.block_lt_of_cell? w _ hw275_0)).trans hw275_0)))).trans (((HB.out.cell (World.block_lt_of_cell? w _ hw275_0)).trans hw275_0)), (World.cell?_alloc_lt _ _ _ (World.block_lt_of_cell? _ _ (((HB.out.cell (World.block_lt_of_cell? w _ hw275_1)).trans hw275_1)))).trans (((HB.out.cell (World.block_lt_of_cell? w _ hw275_1)).trans hw275_1))⟩ (fun hHeld => ?_)
        clear hK K
        refine norm_ (a' := ?_) ?_ ?_
        rotate_left
        ·show Act.put _ (some 47) _ = _
         simp only [Act.put, sx_, s0_, s1_, i64_w, i32_w]
         rfl
        refine one_ (i := 7) (N := some 48) #[true, true, true, true, true, true, true, true, false, false] rfl rfl (one_of HT_.out kr_) (by decide) (fun K hK => ?_)
        refine Kd.R_append_step k59 (w0 := w) w.heap.size (by rfl) (.tmp 42) (.tmp 47) 31 59 (.agg #[(.string ⟨#[]⟩), (.string ⟨#[]⟩)]) 32 rfl Tryz.underlying31 info59 rfl (by decide) (by omega) u275004 x275004_1 (⟨(rd_T59 l1 x8_1).f0, (rd_T59 l1 x8_1).f1⟩ : S59) [.string ((rd_T59 l1 x8_1).f0), .string ((rd_T59 l1 x8_1).f1)] (fun k_ => some k_ ≠ (.slice Ao11 t263.length co11 : Value).ownBlock ∧ some k_ ≠ (.slice Ao12 t266.length co12 : Value).ownBlock ∧ some k_ ≠ (.slice Ao11 t263.length co11 : Value).ownBlock) (fun _ => False) rfl rfl ?aP (fun _ hk => hk.elim) ?aF ?aO ?aB ?aS ?aL ?_
        (case aP => exact k59_mkM _ _ _ (⟨(rd_T59 l1 x8_1).f0, (rd_T59 l1 x8_1).f1⟩ : S59))
        (case aB => exact (bel_ HB.out))
        (case aF => exact (fun k_ hk => ⟨Kd.fresh' (Kd.R_lt (R_ HO_255006.out)) k_ hk, Kd.fresh' (Kd.R_lt (R_ HO_255007.out)) k_ hk, Kd.fresh' (Kd.R_lt (R_ HO_275003.out)) k_ hk⟩))
        (case aO => exact (R_ HO_275004.out))
        (case aS => exact (below_size (bel_ HB.out)))
        (case aL => have := LMc25.out; omega)
        intro v277 w27 ho hb hg hat
        rw [← Ny276.out] at ho
        have n0_ := am_ (Kd.R_over' (R_ HO_255000.out) (Kd.R_typed (R_ HO_275004.out)) (by decide) hg)
        have n1_ := am_ (Kd.R_after (ok := (fun k_ => some k_ ≠ (.slice Ao12 t266.length co12 : Value).ownBlock)) (R_ HO_255006.out) hg hat)
        have n2_ := am_ (Kd.R_after (ok := (fun k_ => some k_ ≠ (.slice Ao11 t263.length co11 : Value).ownBlock ∧ some k_ ≠ (.slice Ao11 t263.length co11 : Value).ownBlock)) (by (with_reducible repeat (first | apply Kd.R_alloc | apply Kd.R_drewN | apply Kd.R_drew)); exact Kd.R_mono HO_255007.out (fun _ hk => ⟨⟨hk.1, hk.2.1⟩, hk.2.2⟩)) hg hat)
        have n3_ := am_ (Kd.R_after (ok := (fun k_ => some k_ ≠ (.slice Ao12 t266.length co12 : Value).ownBlock)) (R_ HO_275003.out) hg hat)
        have n4_ := am_ (blk_grown (g := gb254) (o := .cells #[.slice Ao9 t255.length co9, .int .i64 t258, .string t259, .string t260, .string t261, .string t262, .slice Ao11 t263.length co11, .slice Ao12 t266.length co12, .bool t269] 35 (0, 0)) (blk_ BK254.out) hg (Kd.R_ne HO_275004.out BK254.out (by decide)))
        have n5_ := am_ (blk_grown (g := gb273) (o := .cells #[.int .i64 t270, .string t271] 44 (0, 0)) (blk_ BK273.out) hg (Kd.R_ne HO_275004.out BK273.out (by decide)))
        have n6_ := am_ (blk_grown (g := gb274) (o := .cells #[.string t260, .string t261, .string t262, .slice Ao11 t263.length co11, u275004] 33 (0, 0)) (blk_ BK274.out) hg (Kd.R_ne HO_275004.out BK274.out (by decide)))
        have n7_ := am_ (hb)
        have n8_ := am_ (ho)
        clear HO_255000 HO_255006 HO_255007 HO_275003 BK254 BK273 BK274 HB HO_275004
        have HO_255000 := n0_
        have HO_255006 := n1_
        have HO_255007 := n2_
        have HO_275003 := n3_
        have BK254 := n4_
        have BK273 := n5_
        have BK274 := n6_
        have HB := n7_
        have HO278 := n8_
        clear n0_ n1_ n2_ n3_ n4_ n5_ n6_ n7_ n8_ ho hb hg hat
        obtain ⟨Ao28, co28, eo28⟩ := Kd.R_slice HO278.out
        (first | subst eo28 | (injection eo28 with f1_ f2_ f3_; have f4_ := f1_.symm; have f5_ := f3_.symm; clear f1_ f2_ f3_; subst f4_; subst f5_))
        refine hK.out _ _ ⟨(blk_cell BK274.out 0).trans rfl, (blk_cell BK274.out 1).trans rfl, (blk_cell BK274.out 2).trans rfl, (blk_cell BK274.out 3).trans rfl, (blk_cell BK274.out 4).trans rfl, ((HB.out.cell (World.block_lt_of_cell? w _ hw275_0)).trans hw275_0), ((HB.out.cell (World.block_lt_of_cell? w _ hw275_1)).trans hw275_1)⟩ (fun hHeld => ?_)
        clear hK K
        refine norm_ (a' := ?_) ?_ ?_
        rotate_left
        ·show Act.put _ (some 48) _ = _
         simp only [Act.put, sx_, s0_, s1_, i64_w, i32_w]
         rfl
        refine pure_ (i := 8) (N := some 49) (v := ?_) (a' := ?_) #[true, true, true, true, true, true, true, true, true, false] rfl rfl (any_of HT_.out kr_) (fun _ _ _ h => h) (Or.inl ⟨by rfl, ?_⟩) ?_ ?_
        rotate_left
        ·intro w'
         go_simp
         with_reducible rfl
        rotate_left
        ·simp only [Act.put, sx_, s0_, s1_, i64_w, i32_w]
         rfl
        refine last_ (i := 9) (N := none) #[true, true, true, true, true, true, true, true, true, true] rfl rfl (one_of HT_.out kr_) (by decide) (fun K hK => ?_)
        have hs29 : w27.cell? ⟨gb274, 4, none⟩ = some (u275004) := (blk_cell BK274.out 4).trans rfl
        have hfs29 := blk_frozen BK274.out 4
        have hns29_0 := NB254_274.out
        have hns29_1 := NB273_274.out
        have hms29_0 := NB274_254.out
        have hms29_1 := NB274_273.out
        refine skip_ (w1 := ?_) ?_ ?_ ?_ ?_
        rotate_left
        ·rfl
        ·rfl
        ·go_simp
         rfl
        refine hK.out _ _ ?_
        clear hK K
        refine done_ (done_of HT_.out kr_) ?_
        try go_wp2
        go_roundg k1
        case measure => have := HK1.out; omega
        case rel => exact ⟨(wrap64 (x8_1 + 1)), (y276), (.slice Ao28 y276.length co28), sd_, H', ⟨by have := HK1.out; omega⟩, ⟨by (with_reducible repeat (first | apply Kd.R_alloc | apply Kd.R_drewN | apply Kd.R_drew)); exact Kd.R_mono (Kd.R_far (p := ⟨gb274, 4, none⟩) (Kd.R_types HO_255000.out BK274.out (by decide)) (fun _ hk => hk.2) (.slice Ao28 y276.length co28)) (fun _ hk => trivial)⟩, ⟨by (with_reducible repeat (first | apply Kd.R_alloc | apply Kd.R_drewN | apply Kd.R_drew)); exact Kd.R_mono (Kd.R_far (p := ⟨gb274, 4, none⟩) (Kd.R_types HO_255006.out BK274.out (by decide)) (fun _ hk => hk.2) (.slice Ao28 y276.length co28)) (fun _ hk => ⟨hk.1.1, hk.1.2⟩)⟩, ⟨by (with_reducible repeat (first | apply Kd.R_alloc | apply Kd.R_drewN | apply Kd.R_drew)); exact Kd.R_mono (Kd.R_far (p := ⟨gb274, 4, none⟩) (Kd.R_types HO_255007.out BK274.out (by decide)) (fun _ hk => hk.2) (.slice Ao28 y276.length co28)) (fun _ hk => ⟨hk.1.1.1, ⟨hk.1.1.2, hk.1.2⟩⟩)⟩, ⟨by (with_reducible repeat (first | apply Kd.R_alloc | apply Kd.R_drewN | apply Kd.R_drew)); exact Kd.R_mono (Kd.R_far (p := ⟨gb274, 4, none⟩) (Kd.R_types HO_275003.out BK274.out (by decide)) (fun _ hk => hk.2) (.slice Ao28 y276.length co28)) (fun _ hk => ⟨hk.1.1, hk.1.2⟩)⟩, ⟨by (with_reducible repeat (first | apply Kd.R_alloc | apply Kd.R_drewN | apply Kd.R_drew)); exact Kd.R_mono (Kd.R_far (p := ⟨gb274, 4, none⟩) (Kd.R_types HO278.out BK274.out (by decide)) (fun _ hk => hk.2) (.slice Ao28 y276.length co28)) (fun _ hk => ⟨hk.1.1, ⟨hk.1.2.1, hk.1.2.2⟩⟩)⟩, ⟨by (with_reducible repeat (first | refine blk_drewN ?_ _ | refine blk_drew ?_ | refine blk_alloc ?_ _)); refine blk_far ?_ NB254_274.out _; (with_reducible repeat (first | refine blk_drewN ?_ _ | refine blk_drew ?_ | refine blk_alloc ?_ _)); exact BK254.out⟩, ⟨by (with_reducible repeat (first | refine blk_drewN ?_ _ | refine blk_drew ?_ | refine blk_alloc ?_ _)); refine blk_far ?_ NB273_274.out _; (with_reducible repeat (first | refine blk_drewN ?_ _ | refine blk_drew ?_ | refine blk_alloc ?_ _)); exact BK273.out⟩, ⟨by (with_reducible repeat (first | refine blk_drewN ?_ _ | refine blk_drew ?_ | refine blk_alloc ?_ _)); refine blk_put (cs := #[.string t260, .string t261, .string t262, .slice Ao11 t263.length co11, u275004]) ?_ 4 _ rfl; (with_reducible repeat (first | refine blk_drewN ?_ _ | refine blk_drew ?_ | refine blk_alloc ?_ _)); exact BK274.out⟩, ⟨bel_ HB.out⟩⟩
       ·rw [if_neg c25] at H
        exact absurd H (by simp)
      ·rw [if_neg c24] at H
       exact absurd H (by simp)
     ·rw [if_neg c23] at H
      have c23b0 : decide (x8_1 < 5) = false := decide_eq_false c23
      clear c23
      have H' := Aside0.mk H
      clear H
      go_wp2
      go_meet
      case rel => exact ⟨_, (x275004_1), (u275004), H', ⟨by have := HK1.out; first | omega | exact Nat.le_refl _⟩, ⟨by (with_reducible repeat (first | apply Kd.R_alloc | apply Kd.R_drewN | apply Kd.R_drew)); exact HO_255000.out⟩, ⟨by (with_reducible repeat (first | apply Kd.R_alloc | apply Kd.R_drewN | apply Kd.R_drew)); exact HO_255006.out⟩, ⟨by (with_reducible repeat (first | apply Kd.R_alloc | apply Kd.R_drewN | apply Kd.R_drew)); exact HO_255007.out⟩, ⟨by (with_reducible repeat (first | apply Kd.R_alloc | apply Kd.R_drewN | apply Kd.R_drew)); exact HO_275003.out⟩, ⟨by (with_reducible repeat (first | apply Kd.R_alloc | apply Kd.R_drewN | apply Kd.R_drew)); exact HO_275004.out⟩, ⟨by (with_reducible repeat (first | refine blk_drewN ?_ _ | refine blk_drew ?_ | refine blk_alloc ?_ _)); exact BK254.out⟩, ⟨by (with_reducible repeat (first | refine blk_drewN ?_ _ | refine blk_drew ?_ | refine blk_alloc ?_ _)); exact BK273.out⟩, ⟨by (with_reducible repeat (first | refine blk_drewN ?_ _ | refine blk_drew ?_ | refine blk_alloc ?_ _)); exact BK274.out⟩, ⟨bel_ HB.out⟩⟩
    ·rw [if_neg c22] at H
     have c22b0 : decide (x8_1 < (l1.length : Int)) = false := decide_eq_false c22
     clear c22
     (first | rw [c22b0] | rw [c22b1] | rw [c22b2] | (simp only [i64_w, i32_w]; rw [c22b0]) | skip)
     have H' := Aside0.mk H
     clear H
     go_wp2
     go_meet
     case rel => exact ⟨_, (x275004_1), (u275004), H', ⟨by have := HK1.out; first | omega | exact Nat.le_refl _⟩, ⟨by (with_reducible repeat (first | apply Kd.R_alloc | apply Kd.R_drewN | apply Kd.R_drew)); exact HO_255000.out⟩, ⟨by (with_reducible repeat (first | apply Kd.R_alloc | apply Kd.R_drewN | apply Kd.R_drew)); exact HO_255006.out⟩, ⟨by (with_reducible repeat (first | apply Kd.R_alloc | apply Kd.R_drewN | apply Kd.R_drew)); exact HO_255007.out⟩, ⟨by (with_reducible repeat (first | apply Kd.R_alloc | apply Kd.R_drewN | apply Kd.R_drew)); exact HO_275003.out⟩, ⟨by (with_reducible repeat (first | apply Kd.R_alloc | apply Kd.R_drewN | apply Kd.R_drew)); exact HO_275004.out⟩, ⟨by (with_reducible repeat (first | refine blk_drewN ?_ _ | refine blk_drew ?_ | refine blk_alloc ?_ _)); exact BK254.out⟩, ⟨by (with_reducible repeat (first | refine blk_drewN ?_ _ | refine blk_drew ?_ | refine blk_alloc ?_ _)); exact BK273.out⟩, ⟨by (with_reducible repeat (first | refine blk_drewN ?_ _ | refine blk_drew ?_ | refine blk_alloc ?_ _)); exact BK274.out⟩, ⟨bel_ HB.out⟩⟩
 case rest =>
  clear HC5
  try clear c1
  try clear c2
  try clear p2
  try clear q2
  try clear hx2
  try clear p6
  try clear c7
  try clear c15
  try clear c19
  try clear c20
  try clear c22
  try clear c22b0
  try clear c22b1
  try clear c22b2
  try clear c23
  try clear c23b0
  try clear c24
  try clear c24b0
  try clear c25
  try clear p27
  try clear q27
  try clear hx27
  try clear hcz10_0
  try clear hcz10_1
  try clear hcz10_2
  try clear hcz10_3
  try clear hcz10_4
  try clear hcz10_5
  try clear hcz10_6
  try clear hcz10_7
  try clear hcz10_8
  try clear hcz16_0
  try clear hcz16_1
  try clear hcz17_0
  try clear hcz17_1
  try clear hcz17_2
  try clear hcz17_3
  try clear hcz17_4
  try clear hcz17_5
  try clear hcz17_6
  try clear hcz17_7
  try clear hcz17_8
  try clear hcz21_0
  try clear hcz21_1
  try clear hcz21_2
  try clear hcz21_3
  try clear hcz21_4
  try clear hcz7_0
  try clear hcz7_1
  try clear hcz7_2
  try clear hcz7_3
  try clear hcz7_4
  try clear hcz7_5
  try clear hcz7_6
  try clear hcz7_7
  try clear hcz7_8
  try clear hfz10_0
  try clear hfz10_1
  try clear hfz10_2
  try clear hfz10_3
  try clear hfz10_4
  try clear hfz10_5
  try clear hfz10_6
  try clear hfz10_7
  try clear hfz10_8
  try clear hfz16_0
  try clear hfz16_1
  try clear hfz17_0
  try clear hfz17_1
  try clear hfz17_2
  try clear hfz17_3
  try clear hfz17_4
  try clear hfz17_5
  try clear hfz17_6
  try clear hfz17_7
  try clear hfz17_8
  try clear hfz21_0
  try clear hfz21_1
  try clear hfz21_2
  try clear hfz21_3
  try clear hfz21_4
  try clear hfz7_0
  try clear hfz7_1
  try clear hfz7_2
  try clear hfz7_3
  try clear hfz7_4
  try clear hfz7_5
  try clear hfz7_6
  try clear hfz7_7
  try clear hfz7_8
  try clear hx275_0
  try clear hx275_1
  try clear p2
  try clear p275
  try clear q275
  obtain ⟨kq, x275004_4, u275004, HA, HJ4, HO_255000, HO_255006, HO_255007, HO_275003, HO_275004, BK254, BK273, BK274, HB⟩ := hcut
  cases kq with
  | zero => exact absurd HA.out (by simp [tolllaw07_FilterAways.j1])
  | succ kj4 =>
   have H := HA.out
   clear HA
   simp only [tolllaw07_FilterAways.j1] at H
   replace H := Option.bind_eq_some_iff.mp H
   obtain ⟨⟨t279, t280, t281⟩, A300, H⟩ := H
   replace H : (tolllaw07_FilterAways.l1 kj4 t272 t281 false 0 t255 t258 t259 t260 t261 t262 t263 t266 t269 t270 t271 t279 t280) = some r := H
   have A30 := Aside0.mk A300
   clear A300
   have H' := Aside0.mk H
   clear H
   have hnb31 := NB254_273.out
   have hnc31 := NB273_254.out
   have hnb32 := NB254_274.out
   have hnc32 := NB274_254.out
   have hcz33_0 : wc.cell? ⟨gb254, 0, none⟩ = some (.slice Ao9 t255.length co9) := (blk_cell BK254.out 0).trans rfl
   have hcz33_1 : wc.cell? ⟨gb254, 1, none⟩ = some (.int .i64 t258) := (blk_cell BK254.out 1).trans rfl
   have hcz33_2 : wc.cell? ⟨gb254, 2, none⟩ = some (.string t259) := (blk_cell BK254.out 2).trans rfl
   have hcz33_3 : wc.cell? ⟨gb254, 3, none⟩ = some (.string t260) := (blk_cell BK254.out 3).trans rfl
   have hcz33_4 : wc.cell? ⟨gb254, 4, none⟩ = some (.string t261) := (blk_cell BK254.out 4).trans rfl
   have hcz33_5 : wc.cell? ⟨gb254, 5, none⟩ = some (.string t262) := (blk_cell BK254.out 5).trans rfl
   have hcz33_6 : wc.cell? ⟨gb254, 6, none⟩ = some (.slice Ao11 t263.length co11) := (blk_cell BK254.out 6).trans rfl
   have hcz33_7 : wc.cell? ⟨gb254, 7, none⟩ = some (.slice Ao12 t266.length co12) := (blk_cell BK254.out 7).trans rfl
   have hcz33_8 : wc.cell? ⟨gb254, 8, none⟩ = some (.bool t269) := (blk_cell BK254.out 8).trans rfl
   have hfz33_0 := blk_frozen BK254.out 0
   have hfz33_1 := blk_frozen BK254.out 1
   have hfz33_2 := blk_frozen BK254.out 2
   have hfz33_3 := blk_frozen BK254.out 3
   have hfz33_4 := blk_frozen BK254.out 4
   have hfz33_5 := blk_frozen BK254.out 5
   have hfz33_6 := blk_frozen BK254.out 6
   have hfz33_7 := blk_frozen BK254.out 7
   have hfz33_8 := blk_frozen BK254.out 8
   have hnb34 := NB274_273.out
   have hnc34 := NB273_274.out
   have hcz35_0 : wc.cell? ⟨gb274, 0, none⟩ = some (.string t260) := (blk_cell BK274.out 0).trans rfl
   have hcz35_1 : wc.cell? ⟨gb274, 1, none⟩ = some (.string t261) := (blk_cell BK274.out 1).trans rfl
   have hcz35_2 : wc.cell? ⟨gb274, 2, none⟩ = some (.string t262) := (blk_cell BK274.out 2).trans rfl
   have hcz35_3 : wc.cell? ⟨gb274, 3, none⟩ = some (.slice Ao11 t263.length co11) := (blk_cell BK274.out 3).trans rfl
   have hcz35_4 : wc.cell? ⟨gb274, 4, none⟩ = some (u275004) := (blk_cell BK274.out 4).trans rfl
   have hfz35_0 := blk_frozen BK274.out 0
   have hfz35_1 := blk_frozen BK274.out 1
   have hfz35_2 := blk_frozen BK274.out 2
   have hfz35_3 := blk_frozen BK274.out 3
   have hfz35_4 := blk_frozen BK274.out 4
   obtain ⟨Ao36, co36, eo36⟩ := Kd.R_slice HO_275004.out
   subst eo36
   go_wp2_with (first | ((with_reducible refine gate_callee (f := 19) rfl ?_); refine goesL_ (some 58) rfl rfl Tryz.func19 kr_ rfl #[.slice Ao9 t255.length co9, .agg #[.int .i64 t258, .string t259], .agg #[.string t260, .string t261, .string t262, .slice Ao11 t263.length co11, .slice Ao36 x275004_4.length co36], .bool t269] rfl rl_ ?_; (with_reducible refine (filter_Away.calls kj4 _ _ t255 t258 t259 t260 t261 t262 _ _ t263 _ _ x275004_4 t269 t279 t280 t281 _ ?side1 ?side2 ?side3 ?side4 ?side5 ?side6 (gm_ HGL.out (bel_ HB.out)) A30.out).mono ?_); (case side1 => exact C_ (Kd.R_reads' HO_255000.out).2.2); (case side2 => exact (Kd.R_reads' HO_255000.out).2.1); (case side3 => exact C_ (Kd.R_reads' HO_275003.out).2.2); (case side4 => exact (Kd.R_reads' HO_275003.out).2.1); (case side5 => exact C_ (Kd.R_reads' HO_275004.out).2.2); (case side6 => exact (Kd.R_reads' HO_275004.out).2.1); rintro e w37 ⟨rfl, hb⟩; refine ⟨_, rfl, ?_⟩; have n0_ := am_ (Kd.R_below (R_ HO_255000.out) hb); have n1_ := am_ (Kd.R_below (R_ HO_255006.out) hb); have n2_ := am_ (Kd.R_below (R_ HO_255007.out) hb); have n3_ := am_ (Kd.R_below (R_ HO_275003.out) hb); have n4_ := am_ (Kd.R_below (R_ HO_275004.out) hb); have n5_ := am_ (blk_below (g := gb254) (o := .cells #[.slice Ao9 t255.length co9, .int .i64 t258, .string t259, .string t260, .string t261, .string t262, .slice Ao11 t263.length co11, .slice Ao12 t266.length co12, .bool t269] 35 (0, 0)) (blk_ BK254.out) hb); have n6_ := am_ (blk_below (g := gb273) (o := .cells #[.int .i64 t270, .string t271] 44 (0, 0)) (blk_ BK273.out) hb); have n7_ := am_ (blk_below (g := gb274) (o := .cells #[.string t260, .string t261, .string t262, .slice Ao11 t263.length co11, .slice Ao36 x275004_4.length co36] 33 (0, 0)) (blk_ BK274.out) hb); have n8_ := am_ (below_step (bel_ HB.out) hb); clear HO_255000 HO_255006 HO_255007 HO_275003 HO_275004 BK254 BK273 BK274 HB; have HO_255000 := n0_; have HO_255006 := n1_; have HO_255007 := n2_; have HO_275003 := n3_; have HO_275004 := n4_; have BK254 := n5_; have BK273 := n6_; have BK274 := n7_; have HB := n8_; clear n0_ n1_ n2_ n3_ n4_ n5_ n6_ n7_ n8_; (try clear hb); (try clear hb2); (try clear hk); (try clear hi)) | ((with_reducible refine gate_dst (N := 9) rfl ?_); (try (refine gate_guard (by rfl) ?_; dsimp only)); refine box_event ?hg (N := 9) ?hd (cs := #[.int .i64 0, .string (⟨#[]⟩ : ByteArray)]) (t := 44) ?hr ?_; (case hd => rfl); (case hg => rfl); (case hr => first | (go_simp; done) | (go_simp; rfl)); intro gb282 hg w38 hbox hb; have n0_ := am_ (Kd.R_below (R_ HO_255000.out) hb); have n1_ := am_ (Kd.R_below (R_ HO_255006.out) hb); have n2_ := am_ (Kd.R_below (R_ HO_255007.out) hb); have n3_ := am_ (Kd.R_below (R_ HO_275003.out) hb); have n4_ := am_ (Kd.R_below (R_ HO_275004.out) hb); have n5_ := am_ (blk_below (g := gb254) (o := .cells #[.slice Ao9 t255.length co9, .int .i64 t258, .string t259, .string t260, .string t261, .string t262, .slice Ao11 t263.length co11, .slice Ao12 t266.length co12, .bool t269] 35 (0, 0)) (blk_ BK254.out) hb); have n6_ := am_ (blk_below (g := gb273) (o := .cells #[.int .i64 t270, .string t271] 44 (0, 0)) (blk_ BK273.out) hb); have n7_ := am_ (blk_below (g := gb274) (o := .cells #[.string t260, .string t261, .string t262, .slice Ao11 t263.length co11, .slice Ao36 x275004_4.length co36] 33 (0, 0)) (blk_ BK274.out) hb); have n8_ := am_ (below_step (bel_ HB.out) hb); have n9_ := am_ (hbox); have n10_ := am_ ((by rw [hg]; exact (below_size (bel_ HB.out)) : w.heap.size ≤ gb282)); have n11_ := am_ ((by rw [hg]; exact (below_size (bel_ HB.out)) : w.heap.size ≤ gb282)); have n12_ := am_ ((by rw [hg]; exact Nat.ne_of_lt (blk_lt (g := gb254) (o := .cells #[.slice Ao9 t255.length co9, .int .i64 t258, .string t259, .string t260, .string t261, .string t262, .slice Ao11 t263.length co11, .slice Ao12 t266.length co12, .bool t269] 35 (0, 0)) (blk_ BK254.out)) : gb254 ≠ gb282)); have n13_ := am_ ((by rw [hg]; exact Nat.ne_of_gt (blk_lt (g := gb254) (o := .cells #[.slice Ao9 t255.length co9, .int .i64 t258, .string t259, .string t260, .string t261, .string t262, .slice Ao11 t263.length co11, .slice Ao12 t266.length co12, .bool t269] 35 (0, 0)) (blk_ BK254.out)) : gb282 ≠ gb254)); have n14_ := am_ ((by rw [hg]; exact Nat.ne_of_lt (blk_lt (g := gb273) (o := .cells #[.int .i64 t270, .string t271] 44 (0, 0)) (blk_ BK273.out)) : gb273 ≠ gb282)); have n15_ := am_ ((by rw [hg]; exact Nat.ne_of_gt (blk_lt (g := gb273) (o := .cells #[.int .i64 t270, .string t271] 44 (0, 0)) (blk_ BK273.out)) : gb282 ≠ gb273)); have n16_ := am_ ((by rw [hg]; exact Nat.ne_of_lt (blk_lt (g := gb274) (o := .cells #[.string t260, .string t261, .string t262, .slice Ao11 t263.length co11, .slice Ao36 x275004_4.length co36] 33 (0, 0)) (blk_ BK274.out)) : gb274 ≠ gb282)); have n17_ := am_ ((by rw [hg]; exact Nat.ne_of_gt (blk_lt (g := gb274) (o := .cells #[.string t260, .string t261, .string t262, .slice Ao11 t263.length co11, .slice Ao36 x275004_4.length co36] 33 (0, 0)) (blk_ BK274.out)) : gb282 ≠ gb274)); clear HO_255000 HO_255006 HO_255007 HO_275003 HO_275004 BK254 BK273 BK274 HB; have HO_255000 := n0_; have HO_255006 := n1_; have HO_255007 := n2_; have HO_275003 := n3_; have HO_275004 := n4_; have BK254 := n5_; have BK273 := n6_; have BK274 := n7_; have HB := n8_; have BK282 := n9_; have GW282 := n10_; have GE282 := n11_; have NB254_282 := n12_; have NB282_254 := n13_; have NB273_282 := n14_; have NB282_273 := n15_; have NB274_282 := n16_; have NB282_274 := n17_; clear n0_ n1_ n2_ n3_ n4_ n5_ n6_ n7_ n8_ n9_ n10_ n11_ n12_ n13_ n14_ n15_ n16_ n17_ hb hbox hg; have hnb39 := NB282_254.out; have hnc39 := NB254_282.out; have hnb40 := NB282_273.out; have hnc40 := NB273_282.out; have hnb41 := NB282_274.out; have hnc41 := NB274_282.out; have hcz42_0 : w38.cell? ⟨gb282, 0, none⟩ = some (.int .i64 0) := (blk_cell BK282.out 0).trans rfl; have hcz42_1 : w38.cell? ⟨gb282, 1, none⟩ = some (.string (⟨#[]⟩ : ByteArray)) := (blk_cell BK282.out 1).trans rfl; have hfz42_0 := blk_frozen BK282.out 0; have hfz42_1 := blk_frozen BK282.out 1))
   go_loopg [11, 12] kj4 (fun kq v11 v12 w' => ∃ (x11_2 : Bool) (x12_2 : Int), v11 = .bool x11_2 ∧ v12 = .int .i64 x12_2 ∧ Aside0 (tolllaw07_FilterAways.l1 kq t272 t281 x11_2 x12_2 t255 t258 t259 t260 t261 t262 t263 t266 t269 t270 t271 t279 t280 = some r) ∧ Aside0 (kq ≤ kj4) ∧ Aside0 (Kd.R k26 26 w' w.heap.size (fun _ => True) (.slice Ao9 t255.length co9) t255) ∧ Aside0 (Kd.R k59 59 w' w.heap.size (fun k_ => some k_ ≠ ((.slice Ao12 t266.length co12) : Value).ownBlock ∧ some k_ ≠ ((.slice Ao36 x275004_4.length co36) : Value).ownBlock) (.slice Ao11 t263.length co11) t263) ∧ Aside0 (Kd.R k59 59 w' w.heap.size (fun k_ => some k_ ≠ ((.slice Ao11 t263.length co11) : Value).ownBlock ∧ some k_ ≠ ((.slice Ao11 t263.length co11) : Value).ownBlock ∧ some k_ ≠ ((.slice Ao36 x275004_4.length co36) : Value).ownBlock) (.slice Ao12 t266.length co12) t266) ∧ Aside0 (Kd.R k59 59 w' w.heap.size (fun k_ => some k_ ≠ ((.slice Ao12 t266.length co12) : Value).ownBlock ∧ some k_ ≠ ((.slice Ao36 x275004_4.length co36) : Value).ownBlock) (.slice Ao11 t263.length co11) t263) ∧ Aside0 (Kd.R k59 59 w' w.heap.size (fun k_ => some k_ ≠ ((.slice Ao11 t263.length co11) : Value).ownBlock ∧ some k_ ≠ ((.slice Ao12 t266.length co12) : Value).ownBlock ∧ some k_ ≠ ((.slice Ao11 t263.length co11) : Value).ownBlock) (.slice Ao36 x275004_4.length co36) x275004_4) ∧ Aside0 (w'.heap[gb254]? = some (.cells #[(.slice Ao9 t255.length co9), .int .i64 t258, .string t259, .string t260, .string t261, .string t262, (.slice Ao11 t263.length co11), (.slice Ao12 t266.length co12), .bool t269] 35 (0, 0))) ∧ Aside0 (w'.heap[gb273]? = some (.cells #[.int .i64 t270, .string t271] 44 (0, 0))) ∧ Aside0 (w'.heap[gb274]? = some (.cells #[.string t260, .string t261, .string t262, (.slice Ao11 t263.length co11), (.slice Ao36 x275004_4.length co36)] 33 (0, 0))) ∧ Aside0 (w'.heap[gb282]? = some (.cells #[.int .i64 t279, .string t280] 44 (0, 0))) ∧ Aside0 (Below w.heap.size w w'))
   case atStart => exact ⟨(false), (0), sd_, sd_, H', ⟨Nat.le_refl _⟩, ⟨by (with_reducible repeat (first | apply Kd.R_alloc | apply Kd.R_drewN | apply Kd.R_drew)); exact Kd.R_mono (Kd.R_far (p := ⟨gb282, 1, none⟩) (Kd.R_far (p := ⟨gb282, 0, none⟩) (Kd.R_types HO_255000.out BK282.out (by decide)) (fun _ hk => hk.2) (.int .i64 t279)) (fun _ hk => hk.2) (.string t280)) (fun _ hk => trivial)⟩, ⟨by (with_reducible repeat (first | apply Kd.R_alloc | apply Kd.R_drewN | apply Kd.R_drew)); exact Kd.R_mono (Kd.R_far (p := ⟨gb282, 1, none⟩) (Kd.R_far (p := ⟨gb282, 0, none⟩) (Kd.R_types HO_255006.out BK282.out (by decide)) (fun _ hk => hk.2) (.int .i64 t279)) (fun _ hk => hk.2) (.string t280)) (fun _ hk => ⟨hk.1.1, hk.1.2⟩)⟩, ⟨by (with_reducible repeat (first | apply Kd.R_alloc | apply Kd.R_drewN | apply Kd.R_drew)); exact Kd.R_mono (Kd.R_far (p := ⟨gb282, 1, none⟩) (Kd.R_far (p := ⟨gb282, 0, none⟩) (Kd.R_types HO_255007.out BK282.out (by decide)) (fun _ hk => hk.2) (.int .i64 t279)) (fun _ hk => hk.2) (.string t280)) (fun _ hk => ⟨hk.1.1, ⟨hk.1.2.1, hk.1.2.2⟩⟩)⟩, ⟨by (with_reducible repeat (first | apply Kd.R_alloc | apply Kd.R_drewN | apply Kd.R_drew)); exact Kd.R_mono (Kd.R_far (p := ⟨gb282, 1, none⟩) (Kd.R_far (p := ⟨gb282, 0, none⟩) (Kd.R_types HO_275003.out BK282.out (by decide)) (fun _ hk => hk.2) (.int .i64 t279)) (fun _ hk => hk.2) (.string t280)) (fun _ hk => ⟨hk.1.1, hk.1.2⟩)⟩, ⟨by (with_reducible repeat (first | apply Kd.R_alloc | apply Kd.R_drewN | apply Kd.R_drew)); exact Kd.R_mono (Kd.R_far (p := ⟨gb282, 1, none⟩) (Kd.R_far (p := ⟨gb282, 0, none⟩) (Kd.R_types HO_275004.out BK282.out (by decide)) (fun _ hk => hk.2) (.int .i64 t279)) (fun _ hk => hk.2) (.string t280)) (fun _ hk => ⟨hk.1.1, ⟨hk.1.2.1, hk.1.2.2⟩⟩)⟩, ⟨by (with_reducible repeat (first | refine blk_drewN ?_ _ | refine blk_drew ?_ | refine blk_alloc ?_ _)); refine blk_far ?_ NB254_282.out _; (with_reducible repeat (first | refine blk_drewN ?_ _ | refine blk_drew ?_ | refine blk_alloc ?_ _)); refine blk_far ?_ NB254_282.out _; (with_reducible repeat (first | refine blk_drewN ?_ _ | refine blk_drew ?_ | refine blk_alloc ?_ _)); exact BK254.out⟩, ⟨by (with_reducible repeat (first | refine blk_drewN ?_ _ | refine blk_drew ?_ | refine blk_alloc ?_ _)); refine blk_far ?_ NB273_282.out _; (with_reducible repeat (first | refine blk_drewN ?_ _ | refine blk_drew ?_ | refine blk_alloc ?_ _)); refine blk_far ?_ NB273_282.out _; (with_reducible repeat (first | refine blk_drewN ?_ _ | refine blk_drew ?_ | refine blk_alloc ?_ _)); exact BK273.out⟩, ⟨by (with_reducible repeat (first | refine blk_drewN ?_ _ | refine blk_drew ?_ | refine blk_alloc ?_ _)); refine blk_far ?_ NB274_282.out _; (with_reducible repeat (first | refine blk_drewN ?_ _ | refine blk_drew ?_ | refine blk_alloc ?_ _)); refine blk_far ?_ NB274_282.out _; (with_reducible repeat (first | refine blk_drewN ?_ _ | refine blk_drew ?_ | refine blk_alloc ?_ _)); exact BK274.out⟩, ⟨by (with_reducible repeat (first | refine blk_drewN ?_ _ | refine blk_drew ?_ | refine blk_alloc ?_ _)); refine blk_put (cs := #[.int .i64 t279, .string (⟨#[]⟩ : ByteArray)]) ?_ 1 _ rfl; (with_reducible repeat (first | refine blk_drewN ?_ _ | refine blk_drew ?_ | refine blk_alloc ?_ _)); refine blk_put (cs := #[.int .i64 0, .string (⟨#[]⟩ : ByteArray)]) ?_ 0 _ rfl; (with_reducible repeat (first | refine blk_drewN ?_ _ | refine blk_drew ?_ | refine blk_alloc ?_ _)); exact BK282.out⟩, ⟨bel_ HB.out⟩⟩
   case round =>
    clear H'
    try clear c1
    try clear c2
    try clear p2
    try clear q2
    try clear hx2
    try clear c3
    try clear c4
    try clear p6
    try clear c7
    try clear c15
    try clear c19
    try clear c20
    try clear c22
    try clear c22b0
    try clear c22b1
    try clear c22b2
    try clear c23
    try clear c23b0
    try clear c24
    try clear c24b0
    try clear c25
    try clear p27
    try clear q27
    try clear hx27
    try clear c31
    try clear c32
    try clear c34
    try clear c39
    try clear c40
    try clear c41
    try clear hcz10_0
    try clear hcz10_1
    try clear hcz10_2
    try clear hcz10_3
    try clear hcz10_4
    try clear hcz10_5
    try clear hcz10_6
    try clear hcz10_7
    try clear hcz10_8
    try clear hcz16_0
    try clear hcz16_1
    try clear hcz17_0
    try clear hcz17_1
    try clear hcz17_2
    try clear hcz17_3
    try clear hcz17_4
    try clear hcz17_5
    try clear hcz17_6
    try clear hcz17_7
    try clear hcz17_8
    try clear hcz21_0
    try clear hcz21_1
    try clear hcz21_2
    try clear hcz21_3
    try clear hcz21_4
    try clear hcz33_0
    try clear hcz33_1
    try clear hcz33_2
    try clear hcz33_3
    try clear hcz33_4
    try clear hcz33_5
    try clear hcz33_6
    try clear hcz33_7
    try clear hcz33_8
    try clear hcz35_0
    try clear hcz35_1
    try clear hcz35_2
    try clear hcz35_3
    try clear hcz35_4
    try clear hcz42_0
    try clear hcz42_1
    try clear hcz7_0
    try clear hcz7_1
    try clear hcz7_2
    try clear hcz7_3
    try clear hcz7_4
    try clear hcz7_5
    try clear hcz7_6
    try clear hcz7_7
    try clear hcz7_8
    try clear hfz10_0
    try clear hfz10_1
    try clear hfz10_2
    try clear hfz10_3
    try clear hfz10_4
    try clear hfz10_5
    try clear hfz10_6
    try clear hfz10_7
    try clear hfz10_8
    try clear hfz16_0
    try clear hfz16_1
    try clear hfz17_0
    try clear hfz17_1
    try clear hfz17_2
    try clear hfz17_3
    try clear hfz17_4
    try clear hfz17_5
    try clear hfz17_6
    try clear hfz17_7
    try clear hfz17_8
    try clear hfz21_0
    try clear hfz21_1
    try clear hfz21_2
    try clear hfz21_3
    try clear hfz21_4
    try clear hfz33_0
    try clear hfz33_1
    try clear hfz33_2
    try clear hfz33_3
    try clear hfz33_4
    try clear hfz33_5
    try clear hfz33_6
    try clear hfz33_7
    try clear hfz33_8
    try clear hfz35_0
    try clear hfz35_1
    try clear hfz35_2
    try clear hfz35_3
    try clear hfz35_4
    try clear hfz42_0
    try clear hfz42_1
    try clear hfz7_0
    try clear hfz7_1
    try clear hfz7_2
    try clear hfz7_3
    try clear hfz7_4
    try clear hfz7_5
    try clear hfz7_6
    try clear hfz7_7
    try clear hfz7_8
    try clear hx275_0
    try clear hx275_1
    try clear p2
    try clear p27
    try clear p275
    try clear p6
    try clear q2
    try clear q27
    try clear q275
    obtain ⟨x11_2, x12_2, rfl, rfl, HA, HK2, HO_255000, HO_255006, HO_255007, HO_275003, HO_275004, BK254, BK273, BK274, BK282, HB⟩ := hrel
    cases gk with
    | zero => exact absurd HA.out (by simp [tolllaw07_FilterAways.l1])
    | succ k2 =>
     have H := HA.out
     clear HA
     simp only [tolllaw07_FilterAways.l1] at H
     by_cases c43 : x12_2 < (t255.length : Int)
     ·rw [if_pos c43] at H
      have c43b0 : decide (x12_2 < (t255.length : Int)) = true := decide_eq_true c43
      clear c43
      by_cases c44 : x11_2 = true
      ·subst c44
       have H1 : (tolllaw07_FilterAways.l1 k2 t272 t281 true (wrap64 (x12_2 + 1)) t255 t258 t259 t260 t261 t262 t263 t266 t269 t270 t271 t279 t280) = some r := by rw [if_pos rfl] at H; exact H
       clear H
       have H := H1
       clear H1
       have H' := Aside0.mk H
       clear H
       have hnb45 := NB254_273.out
       have hnc45 := NB273_254.out
       have hnb46 := NB254_274.out
       have hnc46 := NB274_254.out
       have hnb47 := NB254_282.out
       have hnc47 := NB282_254.out
       have hcz48_0 : wr.cell? ⟨gb254, 0, none⟩ = some (.slice Ao9 t255.length co9) := (blk_cell BK254.out 0).trans rfl
       have hcz48_1 : wr.cell? ⟨gb254, 1, none⟩ = some (.int .i64 t258) := (blk_cell BK254.out 1).trans rfl
       have hcz48_2 : wr.cell? ⟨gb254, 2, none⟩ = some (.string t259) := (blk_cell BK254.out 2).trans rfl
       have hcz48_3 : wr.cell? ⟨gb254, 3, none⟩ = some (.string t260) := (blk_cell BK254.out 3).trans rfl
       have hcz48_4 : wr.cell? ⟨gb254, 4, none⟩ = some (.string t261) := (blk_cell BK254.out 4).trans rfl
       have hcz48_5 : wr.cell? ⟨gb254, 5, none⟩ = some (.string t262) := (blk_cell BK254.out 5).trans rfl
       have hcz48_6 : wr.cell? ⟨gb254, 6, none⟩ = some (.slice Ao11 t263.length co11) := (blk_cell BK254.out 6).trans rfl
       have hcz48_7 : wr.cell? ⟨gb254, 7, none⟩ = some (.slice Ao12 t266.length co12) := (blk_cell BK254.out 7).trans rfl
       have hcz48_8 : wr.cell? ⟨gb254, 8, none⟩ = some (.bool t269) := (blk_cell BK254.out 8).trans rfl
       have hfz48_0 := blk_frozen BK254.out 0
       have hfz48_1 := blk_frozen BK254.out 1
       have hfz48_2 := blk_frozen BK254.out 2
       have hfz48_3 := blk_frozen BK254.out 3
       have hfz48_4 := blk_frozen BK254.out 4
       have hfz48_5 := blk_frozen BK254.out 5
       have hfz48_6 := blk_frozen BK254.out 6
       have hfz48_7 := blk_frozen BK254.out 7
       have hfz48_8 := blk_frozen BK254.out 8
       go_wp2
       go_roundg k2
       case measure => have := HJ4.out; have := HK2.out; omega
       case rel => exact ⟨(true), (wrap64 (x12_2 + 1)), sd_, sd_, H', ⟨by have := HJ4.out; have := HK2.out; omega⟩, ⟨by (with_reducible repeat (first | apply Kd.R_alloc | apply Kd.R_drewN | apply Kd.R_drew)); exact HO_255000.out⟩, ⟨by (with_reducible repeat (first | apply Kd.R_alloc | apply Kd.R_drewN | apply Kd.R_drew)); exact HO_255006.out⟩, ⟨by (with_reducible repeat (first | apply Kd.R_alloc | apply Kd.R_drewN | apply Kd.R_drew)); exact HO_255007.out⟩, ⟨by (with_reducible repeat (first | apply Kd.R_alloc | apply Kd.R_drewN | apply Kd.R_drew)); exact HO_275003.out⟩, ⟨by (with_reducible repeat (first | apply Kd.R_alloc | apply Kd.R_drewN | apply Kd.R_drew)); exact HO_275004.out⟩, ⟨by (with_reducible repeat (first | refine blk_drewN ?_ _ | refine blk_drew ?_ | refine blk_alloc ?_ _)); exact BK254.out⟩, ⟨by (with_reducible repeat (first | refine blk_drewN ?_ _ | refine blk_drew ?_ | refine blk_alloc ?_ _)); exact BK273.out⟩, ⟨by (with_reducible repeat (first | refine blk_drewN ?_ _ | refine blk_drew ?_ | refine blk_alloc ?_ _)); exact BK274.out⟩, ⟨by (with_reducible repeat (first | refine blk_drewN ?_ _ | refine blk_drew ?_ | refine blk_alloc ?_ _)); exact BK282.out⟩, ⟨bel_ HB.out⟩⟩
      ·replace c44 := Bool.eq_false_iff.mpr c44
       subst c44
       have H1 : (if 0 ≤ x12_2 then (tolllaw07_FilterAways.l1 k2 t272 t281 (((rd_T26 t255 x12_2).f0) == 4) (wrap64 (x12_2 + 1)) t255 t258 t259 t260 t261 t262 t263 t266 t269 t270 t271 t279 t280) else (none)) = some r := by rw [if_neg (show ¬ (false = true) by decide)] at H; exact H
       clear H
       have H := H1
       clear H1
       by_cases c49 : 0 ≤ x12_2
       ·rw [if_pos c49] at H
        have c49b0 : decide (0 ≤ x12_2) = true := decide_eq_true c49
        clear c49
        have H' := Aside0.mk H
        clear H
        have hnb50 := NB254_273.out
        have hnc50 := NB273_254.out
        have hnb51 := NB254_274.out
        have hnc51 := NB274_254.out
        have hnb52 := NB254_282.out
        have hnc52 := NB282_254.out
        have hcz53_0 : wr.cell? ⟨gb254, 0, none⟩ = some (.slice Ao9 t255.length co9) := (blk_cell BK254.out 0).trans rfl
        have hcz53_1 : wr.cell? ⟨gb254, 1, none⟩ = some (.int .i64 t258) := (blk_cell BK254.out 1).trans rfl
        have hcz53_2 : wr.cell? ⟨gb254, 2, none⟩ = some (.string t259) := (blk_cell BK254.out 2).trans rfl
        have hcz53_3 : wr.cell? ⟨gb254, 3, none⟩ = some (.string t260) := (blk_cell BK254.out 3).trans rfl
        have hcz53_4 : wr.cell? ⟨gb254, 4, none⟩ = some (.string t261) := (blk_cell BK254.out 4).trans rfl
        have hcz53_5 : wr.cell? ⟨gb254, 5, none⟩ = some (.string t262) := (blk_cell BK254.out 5).trans rfl
        have hcz53_6 : wr.cell? ⟨gb254, 6, none⟩ = some (.slice Ao11 t263.length co11) := (blk_cell BK254.out 6).trans rfl
        have hcz53_7 : wr.cell? ⟨gb254, 7, none⟩ = some (.slice Ao12 t266.length co12) := (blk_cell BK254.out 7).trans rfl
        have hcz53_8 : wr.cell? ⟨gb254, 8, none⟩ = some (.bool t269) := (blk_cell BK254.out 8).trans rfl
        have hfz53_0 := blk_frozen BK254.out 0
        have hfz53_1 := blk_frozen BK254.out 1
        have hfz53_2 := blk_frozen BK254.out 2
        have hfz53_3 := blk_frozen BK254.out 3
        have hfz53_4 := blk_frozen BK254.out 4
        have hfz53_5 := blk_frozen BK254.out 5
        have hfz53_6 := blk_frozen BK254.out 6
        have hfz53_7 := blk_frozen BK254.out 7
        have hfz53_8 := blk_frozen BK254.out 8
        have p283 : 0 ≤ (x12_2 : Int) := of_decide_eq_true as_
        have q283 : x12_2 < (t255.length : Int) := of_decide_eq_true as_
        obtain ⟨ad283, e283, hx283_0, hx283_1, hx283_2, hx283_3, hx283_4, hx283_5, hx283_6, hx283_7⟩ := at_T26 (Kd.R_reads' HO_255000.out).2.2 x12_2 p283 q283
        cases e283
        replace p283 := eq_true p283
        replace q283 := eq_true q283
        go_wp2
        go_roundg k2
        case measure => have := HJ4.out; have := HK2.out; omega
        case rel => exact ⟨((((rd_T26 t255 x12_2).f0) == 4)), (wrap64 (x12_2 + 1)), sd_, sd_, H', ⟨by have := HJ4.out; have := HK2.out; omega⟩, ⟨by (with_reducible repeat (first | apply Kd.R_alloc | apply Kd.R_drewN | apply Kd.R_drew)); exact HO_255000.out⟩, ⟨by (with_reducible repeat (first | apply Kd.R_alloc | apply Kd.R_drewN | apply Kd.R_drew)); exact HO_255006.out⟩, ⟨by (with_reducible repeat (first | apply Kd.R_alloc | apply Kd.R_drewN | apply Kd.R_drew)); exact HO_255007.out⟩, ⟨by (with_reducible repeat (first | apply Kd.R_alloc | apply Kd.R_drewN | apply Kd.R_drew)); exact HO_275003.out⟩, ⟨by (with_reducible repeat (first | apply Kd.R_alloc | apply Kd.R_drewN | apply Kd.R_drew)); exact HO_275004.out⟩, ⟨by (with_reducible repeat (first | refine blk_drewN ?_ _ | refine blk_drew ?_ | refine blk_alloc ?_ _)); exact BK254.out⟩, ⟨by (with_reducible repeat (first | refine blk_drewN ?_ _ | refine blk_drew ?_ | refine blk_alloc ?_ _)); exact BK273.out⟩, ⟨by (with_reducible repeat (first | refine blk_drewN ?_ _ | refine blk_drew ?_ | refine blk_alloc ?_ _)); exact BK274.out⟩, ⟨by (with_reducible repeat (first | refine blk_drewN ?_ _ | refine blk_drew ?_ | refine blk_alloc ?_ _)); exact BK282.out⟩, ⟨bel_ HB.out⟩⟩
       ·rw [if_neg c49] at H
        exact absurd H (by simp)
     ·rw [if_neg c43] at H
      have c43b0 : decide (x12_2 < (t255.length : Int)) = false := decide_eq_false c43
      clear c43
      have HC54 := Aside0.mk H
      clear H
      have hnb55 := NB254_273.out
      have hnc55 := NB273_254.out
      have hnb56 := NB254_274.out
      have hnc56 := NB274_254.out
      have hnb57 := NB254_282.out
      have hnc57 := NB282_254.out
      have hcz58_0 : wr.cell? ⟨gb254, 0, none⟩ = some (.slice Ao9 t255.length co9) := (blk_cell BK254.out 0).trans rfl
      have hcz58_1 : wr.cell? ⟨gb254, 1, none⟩ = some (.int .i64 t258) := (blk_cell BK254.out 1).trans rfl
      have hcz58_2 : wr.cell? ⟨gb254, 2, none⟩ = some (.string t259) := (blk_cell BK254.out 2).trans rfl
      have hcz58_3 : wr.cell? ⟨gb254, 3, none⟩ = some (.string t260) := (blk_cell BK254.out 3).trans rfl
      have hcz58_4 : wr.cell? ⟨gb254, 4, none⟩ = some (.string t261) := (blk_cell BK254.out 4).trans rfl
      have hcz58_5 : wr.cell? ⟨gb254, 5, none⟩ = some (.string t262) := (blk_cell BK254.out 5).trans rfl
      have hcz58_6 : wr.cell? ⟨gb254, 6, none⟩ = some (.slice Ao11 t263.length co11) := (blk_cell BK254.out 6).trans rfl
      have hcz58_7 : wr.cell? ⟨gb254, 7, none⟩ = some (.slice Ao12 t266.length co12) := (blk_cell BK254.out 7).trans rfl
      have hcz58_8 : wr.cell? ⟨gb254, 8, none⟩ = some (.bool t269) := (blk_cell BK254.out 8).trans rfl
      have hfz58_0 := blk_frozen BK254.out 0
      have hfz58_1 := blk_frozen BK254.out 1
      have hfz58_2 := blk_frozen BK254.out 2
      have hfz58_3 := blk_frozen BK254.out 3
      have hfz58_4 := blk_frozen BK254.out 4
      have hfz58_5 := blk_frozen BK254.out 5
      have hfz58_6 := blk_frozen BK254.out 6
      have hfz58_7 := blk_frozen BK254.out 7
      have hfz58_8 := blk_frozen BK254.out 8
      go_upto_region 15 with (fail)
      go_cut [100] (fun v100 wc => ∃ (kq : Nat) (x100_53 : Bool), v100 = .bool x100_53 ∧ Aside0 (tolllaw07_FilterAways.j3 kq t272 x100_53 t255 t258 t259 t260 t261 t262 t263 t266 t269 t270 t271 = some r) ∧ Aside0 (kq ≤ k2) ∧ Aside0 (Kd.R k26 26 wc w.heap.size (fun _ => True) (.slice Ao9 t255.length co9) t255) ∧ Aside0 (Kd.R k59 59 wc w.heap.size (fun k_ => some k_ ≠ ((.slice Ao12 t266.length co12) : Value).ownBlock ∧ some k_ ≠ ((.slice Ao36 x275004_4.length co36) : Value).ownBlock) (.slice Ao11 t263.length co11) t263) ∧ Aside0 (Kd.R k59 59 wc w.heap.size (fun k_ => some k_ ≠ ((.slice Ao11 t263.length co11) : Value).ownBlock ∧ some k_ ≠ ((.slice Ao11 t263.length co11) : Value).ownBlock ∧ some k_ ≠ ((.slice Ao36 x275004_4.length co36) : Value).ownBlock) (.slice Ao12 t266.length co12) t266) ∧ Aside0 (Kd.R k59 59 wc w.heap.size (fun k_ => some k_ ≠ ((.slice Ao12 t266.length co12) : Value).ownBlock ∧ some k_ ≠ ((.slice Ao36 x275004_4.length co36) : Value).ownBlock) (.slice Ao11 t263.length co11) t263) ∧ Aside0 (Kd.R k59 59 wc w.heap.size (fun k_ => some k_ ≠ ((.slice Ao11 t263.length co11) : Value).ownBlock ∧ some k_ ≠ ((.slice Ao12 t266.length co12) : Value).ownBlock ∧ some k_ ≠ ((.slice Ao11 t263.length co11) : Value).ownBlock) (.slice Ao36 x275004_4.length co36) x275004_4) ∧ Aside0 (wc.heap[gb254]? = some (.cells #[(.slice Ao9 t255.length co9), .int .i64 t258, .string t259, .string t260, .string t261, .string t262, (.slice Ao11 t263.length co11), (.slice Ao12 t266.length co12), .bool t269] 35 (0, 0))) ∧ Aside0 (wc.heap[gb273]? = some (.cells #[.int .i64 t270, .string t271] 44 (0, 0))) ∧ Aside0 (wc.heap[gb274]? = some (.cells #[.string t260, .string t261, .string t262, (.slice Ao11 t263.length co11), (.slice Ao36 x275004_4.length co36)] 33 (0, 0))) ∧ Aside0 (wc.heap[gb282]? = some (.cells #[.int .i64 t279, .string t280] 44 (0, 0))) ∧ Aside0 (Below w.heap.size w wc))
      case first =>
       have H := HC54.out
       clear HC54
       by_cases c59 : (!(t270 == t279) || (!(t271.toList == t280.toList))) = true
       ·rw [if_pos c59] at H
        exact absurd H (by simp)
       ·rw [if_neg c59] at H
        have c59b0 : (!(t270 == t279) || (!(t271.toList == t280.toList))) = false := by simpa using c59
        clear c59
        (first | rw [c59b0] | rw [c59b1] | rw [c59b2] | (simp only [i64_w, i32_w]; rw [c59b0]) | skip)
        by_cases c60 : t272 = t281
        ·rw [if_pos c60] at H
         have c60b0 : (t272 == t281) = true := beq_iff_eq.mpr c60
         have c60b1 : (t272 != t281) = false := bne_eq_false_iff_eq.mpr c60
         clear c60
         by_cases c61 : t272 = 3
         ·rw [if_pos c61] at H
          have c61b0 : (t272 == 3) = true := beq_iff_eq.mpr c61
          have c61b1 : (t272 != 3) = false := bne_eq_false_iff_eq.mpr c61
          clear c61
          by_cases c62 : x11_2 = true
          ·subst c62
           have H1 : (none) = some r := by rw [if_pos rfl] at H; exact H
           clear H
           have H := H1
           clear H1
           exact absurd H (by simp)
          ·replace c62 := Bool.eq_false_iff.mpr c62
           subst c62
           have H1 : (if t272 = 0 then (tolllaw07_FilterAways.j3 k2 t272 (!false) t255 t258 t259 t260 t261 t262 t263 t266 t269 t270 t271) else (tolllaw07_FilterAways.j3 k2 t272 false t255 t258 t259 t260 t261 t262 t263 t266 t269 t270 t271)) = some r := by rw [if_neg (show ¬ (false = true) by decide)] at H; exact H
           clear H
           have H := H1
           clear H1
           by_cases c63 : t272 = 0
           ·rw [if_pos c63] at H
            have c63b0 : (t272 == 0) = true := beq_iff_eq.mpr c63
            have c63b1 : (t272 != 0) = false := bne_eq_false_iff_eq.mpr c63
            clear c63
            have H' := Aside0.mk H
            clear H
            have hnb64 := NB273_254.out
            have hnc64 := NB254_273.out
            have hnb65 := NB273_274.out
            have hnc65 := NB274_273.out
            have hnb66 := NB273_282.out
            have hnc66 := NB282_273.out
            have hcz67_0 : wr.cell? ⟨gb273, 0, none⟩ = some (.int .i64 t270) := (blk_cell BK273.out 0).trans rfl
            have hcz67_1 : wr.cell? ⟨gb273, 1, none⟩ = some (.string t271) := (blk_cell BK273.out 1).trans rfl
            have hfz67_0 := blk_frozen BK273.out 0
            have hfz67_1 := blk_frozen BK273.out 1
            have hnb68 := NB282_254.out
            have hnc68 := NB254_282.out
            have hnb69 := NB282_274.out
            have hnc69 := NB274_282.out
            have hcz70_0 : wr.cell? ⟨gb282, 0, none⟩ = some (.int .i64 t279) := (blk_cell BK282.out 0).trans rfl
            have hcz70_1 : wr.cell? ⟨gb282, 1, none⟩ = some (.string t280) := (blk_cell BK282.out 1).trans rfl
            have hfz70_0 := blk_frozen BK282.out 0
            have hfz70_1 := blk_frozen BK282.out 1
            go_wp2
            go_meet
            case rel => exact ⟨_, (!false), sd_, H', ⟨by have := HJ4.out; have := HK2.out; first | omega | exact Nat.le_refl _⟩, ⟨by (with_reducible repeat (first | apply Kd.R_alloc | apply Kd.R_drewN | apply Kd.R_drew)); exact HO_255000.out⟩, ⟨by (with_reducible repeat (first | apply Kd.R_alloc | apply Kd.R_drewN | apply Kd.R_drew)); exact HO_255006.out⟩, ⟨by (with_reducible repeat (first | apply Kd.R_alloc | apply Kd.R_drewN | apply Kd.R_drew)); exact HO_255007.out⟩, ⟨by (with_reducible repeat (first | apply Kd.R_alloc | apply Kd.R_drewN | apply Kd.R_drew)); exact HO_275003.out⟩, ⟨by (with_reducible repeat (first | apply Kd.R_alloc | apply Kd.R_drewN | apply Kd.R_drew)); exact HO_275004.out⟩, ⟨by (with_reducible repeat (first | refine blk_drewN ?_ _ | refine blk_drew ?_ | refine blk_alloc ?_ _)); exact BK254.out⟩, ⟨by (with_reducible repeat (first | refine blk_drewN ?_ _ | refine blk_drew ?_ | refine blk_alloc ?_ _)); exact BK273.out⟩, ⟨by (with_reducible repeat (first | refine blk_drewN ?_ _ | refine blk_drew ?_ | refine blk_alloc ?_ _)); exact BK274.out⟩, ⟨by (with_reducible repeat (first | refine blk_drewN ?_ _ | refine blk_drew ?_ | refine blk_alloc ?_ _)); exact BK282.out⟩, ⟨bel_ HB.out⟩⟩
           ·rw [if_neg c63] at H
            have c63b0 : (t272 == 0) = false := beq_eq_false_iff_ne.mpr c63
            have c63b1 : (t272 != 0) = true := bne_iff_ne.mpr c63
            have H' := Aside0.mk H
            clear H
            have hnb71 := NB273_254.out
            have hnc71 := NB254_273.out
            have hnb72 := NB273_274.out
            have hnc72 := NB274_273.out
            have hnb73 := NB273_282.out
            have hnc73 := NB282_273.out
            have hcz74_0 : wr.cell? ⟨gb273, 0, none⟩ = some (.int .i64 t270) := (blk_cell BK273.out 0).trans rfl
            have hcz74_1 : wr.cell? ⟨gb273, 1, none⟩ = some (.string t271) := (blk_cell BK273.out 1).trans rfl
            have hfz74_0 := blk_frozen BK273.out 0
            have hfz74_1 := blk_frozen BK273.out 1
            have hnb75 := NB282_254.out
            have hnc75 := NB254_282.out
            have hnb76 := NB282_274.out
            have hnc76 := NB274_282.out
            have hcz77_0 : wr.cell? ⟨gb282, 0, none⟩ = some (.int .i64 t279) := (blk_cell BK282.out 0).trans rfl
            have hcz77_1 : wr.cell? ⟨gb282, 1, none⟩ = some (.string t280) := (blk_cell BK282.out 1).trans rfl
            have hfz77_0 := blk_frozen BK282.out 0
            have hfz77_1 := blk_frozen BK282.out 1
            go_wp2
            go_meet
            case rel => exact ⟨_, (false), sd_, H', ⟨by have := HJ4.out; have := HK2.out; first | omega | exact Nat.le_refl _⟩, ⟨by (with_reducible repeat (first | apply Kd.R_alloc | apply Kd.R_drewN | apply Kd.R_drew)); exact HO_255000.out⟩, ⟨by (with_reducible repeat (first | apply Kd.R_alloc | apply Kd.R_drewN | apply Kd.R_drew)); exact HO_255006.out⟩, ⟨by (with_reducible repeat (first | apply Kd.R_alloc | apply Kd.R_drewN | apply Kd.R_drew)); exact HO_255007.out⟩, ⟨by (with_reducible repeat (first | apply Kd.R_alloc | apply Kd.R_drewN | apply Kd.R_drew)); exact HO_275003.out⟩, ⟨by (with_reducible repeat (first | apply Kd.R_alloc | apply Kd.R_drewN | apply Kd.R_drew)); exact HO_275004.out⟩, ⟨by (with_reducible repeat (first | refine blk_drewN ?_ _ | refine blk_drew ?_ | refine blk_alloc ?_ _)); exact BK254.out⟩, ⟨by (with_reducible repeat (first | refine blk_drewN ?_ _ | refine blk_drew ?_ | refine blk_alloc ?_ _)); exact BK273.out⟩, ⟨by (with_reducible repeat (first | refine blk_drewN ?_ _ | refine blk_drew ?_ | refine blk_alloc ?_ _)); exact BK274.out⟩, ⟨by (with_reducible repeat (first | refine blk_drewN ?_ _ | refine blk_drew ?_ | refine blk_alloc ?_ _)); exact BK282.out⟩, ⟨bel_ HB.out⟩⟩
         ·rw [if_neg c61] at H
          have c61b0 : (t272 == 3) = false := beq_eq_false_iff_ne.mpr c61
          have c61b1 : (t272 != 3) = true := bne_iff_ne.mpr c61
          by_cases c78 : t272 = 0
          ·rw [if_pos c78] at H
           have c78b0 : (t272 == 0) = true := beq_iff_eq.mpr c78
           have c78b1 : (t272 != 0) = false := bne_eq_false_iff_eq.mpr c78
           clear c78
           have H' := Aside0.mk H
           clear H
           have hnb79 := NB273_254.out
           have hnc79 := NB254_273.out
           have hnb80 := NB273_274.out
           have hnc80 := NB274_273.out
           have hnb81 := NB273_282.out
           have hnc81 := NB282_273.out
           have hcz82_0 : wr.cell? ⟨gb273, 0, none⟩ = some (.int .i64 t270) := (blk_cell BK273.out 0).trans rfl
           have hcz82_1 : wr.cell? ⟨gb273, 1, none⟩ = some (.string t271) := (blk_cell BK273.out 1).trans rfl
           have hfz82_0 := blk_frozen BK273.out 0
           have hfz82_1 := blk_frozen BK273.out 1
           have hnb83 := NB282_254.out
           have hnc83 := NB254_282.out
           have hnb84 := NB282_274.out
           have hnc84 := NB274_282.out
           have hcz85_0 : wr.cell? ⟨gb282, 0, none⟩ = some (.int .i64 t279) := (blk_cell BK282.out 0).trans rfl
           have hcz85_1 : wr.cell? ⟨gb282, 1, none⟩ = some (.string t280) := (blk_cell BK282.out 1).trans rfl
           have hfz85_0 := blk_frozen BK282.out 0
           have hfz85_1 := blk_frozen BK282.out 1
           go_wp2
           go_meet
           case rel => exact ⟨_, (!x11_2), sd_, H', ⟨by have := HJ4.out; have := HK2.out; first | omega | exact Nat.le_refl _⟩, ⟨by (with_reducible repeat (first | apply Kd.R_alloc | apply Kd.R_drewN | apply Kd.R_drew)); exact HO_255000.out⟩, ⟨by (with_reducible repeat (first | apply Kd.R_alloc | apply Kd.R_drewN | apply Kd.R_drew)); exact HO_255006.out⟩, ⟨by (with_reducible repeat (first | apply Kd.R_alloc | apply Kd.R_drewN | apply Kd.R_drew)); exact HO_255007.out⟩, ⟨by (with_reducible repeat (first | apply Kd.R_alloc | apply Kd.R_drewN | apply Kd.R_drew)); exact HO_275003.out⟩, ⟨by (with_reducible repeat (first | apply Kd.R_alloc | apply Kd.R_drewN | apply Kd.R_drew)); exact HO_275004.out⟩, ⟨by (with_reducible repeat (first | refine blk_drewN ?_ _ | refine blk_drew ?_ | refine blk_alloc ?_ _)); exact BK254.out⟩, ⟨by (with_reducible repeat (first | refine blk_drewN ?_ _ | refine blk_drew ?_ | refine blk_alloc ?_ _)); exact BK273.out⟩, ⟨by (with_reducible repeat (first | refine blk_drewN ?_ _ | refine blk_drew ?_ | refine blk_alloc ?_ _)); exact BK274.out⟩, ⟨by (with_reducible repeat (first | refine blk_drewN ?_ _ | refine blk_drew ?_ | refine blk_alloc ?_ _)); exact BK282.out⟩, ⟨bel_ HB.out⟩⟩
          ·rw [if_neg c78] at H
           have c78b0 : (t272 == 0) = false := beq_eq_false_iff_ne.mpr c78
           have c78b1 : (t272 != 0) = true := bne_iff_ne.mpr c78
           have H' := Aside0.mk H
           clear H
           have hnb86 := NB273_254.out
           have hnc86 := NB254_273.out
           have hnb87 := NB273_274.out
           have hnc87 := NB274_273.out
           have hnb88 := NB273_282.out
           have hnc88 := NB282_273.out
           have hcz89_0 : wr.cell? ⟨gb273, 0, none⟩ = some (.int .i64 t270) := (blk_cell BK273.out 0).trans rfl
           have hcz89_1 : wr.cell? ⟨gb273, 1, none⟩ = some (.string t271) := (blk_cell BK273.out 1).trans rfl
           have hfz89_0 := blk_frozen BK273.out 0
           have hfz89_1 := blk_frozen BK273.out 1
           have hnb90 := NB282_254.out
           have hnc90 := NB254_282.out
           have hnb91 := NB282_274.out
           have hnc91 := NB274_282.out
           have hcz92_0 : wr.cell? ⟨gb282, 0, none⟩ = some (.int .i64 t279) := (blk_cell BK282.out 0).trans rfl
           have hcz92_1 : wr.cell? ⟨gb282, 1, none⟩ = some (.string t280) := (blk_cell BK282.out 1).trans rfl
           have hfz92_0 := blk_frozen BK282.out 0
           have hfz92_1 := blk_frozen BK282.out 1
           go_wp2
           go_meet
           case rel => exact ⟨_, (false), sd_, H', ⟨by have := HJ4.out; have := HK2.out; first | omega | exact Nat.le_refl _⟩, ⟨by (with_reducible repeat (first | apply Kd.R_alloc | apply Kd.R_drewN | apply Kd.R_drew)); exact HO_255000.out⟩, ⟨by (with_reducible repeat (first | apply Kd.R_alloc | apply Kd.R_drewN | apply Kd.R_drew)); exact HO_255006.out⟩, ⟨by (with_reducible repeat (first | apply Kd.R_alloc | apply Kd.R_drewN | apply Kd.R_drew)); exact HO_255007.out⟩, ⟨by (with_reducible repeat (first | apply Kd.R_alloc | apply Kd.R_drewN | apply Kd.R_drew)); exact HO_275003.out⟩, ⟨by (with_reducible repeat (first | apply Kd.R_alloc | apply Kd.R_drewN | apply Kd.R_drew)); exact HO_275004.out⟩, ⟨by (with_reducible repeat (first | refine blk_drewN ?_ _ | refine blk_drew ?_ | refine blk_alloc ?_ _)); exact BK254.out⟩, ⟨by (with_reducible repeat (first | refine blk_drewN ?_ _ | refine blk_drew ?_ | refine blk_alloc ?_ _)); exact BK273.out⟩, ⟨by (with_reducible repeat (first | refine blk_drewN ?_ _ | refine blk_drew ?_ | refine blk_alloc ?_ _)); exact BK274.out⟩, ⟨by (with_reducible repeat (first | refine blk_drewN ?_ _ | refine blk_drew ?_ | refine blk_alloc ?_ _)); exact BK282.out⟩, ⟨bel_ HB.out⟩⟩
        ·rw [if_neg c60] at H
         exact absurd H (by simp)
      case rest =>
       clear HC54
       try clear c1
       try clear c2
       try clear p2
       try clear q2
       try clear hx2
       try clear c3
       try clear c4
       try clear c5
       try clear c6
       try clear p6
       try clear c7
       try clear c8
       try clear c9
       try clear c15
       try clear c19
       try clear c20
       try clear c22
       try clear c22b0
       try clear c22b1
       try clear c22b2
       try clear c23
       try clear c23b0
       try clear c24
       try clear c24b0
       try clear c25
       try clear p27
       try clear q27
       try clear hx27
       try clear p28
       try clear q28
       try clear hx28
       try clear c31
       try clear c32
       try clear c34
       try clear c39
       try clear c40
       try clear c41
       try clear c43
       try clear c43b0
       try clear c44
       try clear c45
       try clear c46
       try clear c47
       try clear c49
       try clear c49b0
       try clear c50
       try clear c51
       try clear c52
       try clear c55
       try clear c56
       try clear c57
       try clear c59
       try clear c59b0
       try clear c59b1
       try clear c59b2
       try clear c60
       try clear c60b0
       try clear c60b1
       try clear c61
       try clear c61b0
       try clear c61b1
       try clear c62
       try clear c63
       try clear c63b0
       try clear c63b1
       try clear c64
       try clear p64
       try clear c65
       try clear c66
       try clear c68
       try clear c69
       try clear c71
       try clear c72
       try clear c73
       try clear c75
       try clear c76
       try clear c78
       try clear c78b0
       try clear c78b1
       try clear c79
       try clear c80
       try clear c81
       try clear c83
       try clear c84
       try clear c86
       try clear c87
       try clear c88
       try clear c90
       try clear c91
       try clear hcz10_0
       try clear hcz10_1
       try clear hcz10_2
       try clear hcz10_3
       try clear hcz10_4
       try clear hcz10_5
       try clear hcz10_6
       try clear hcz10_7
       try clear hcz10_8
       try clear hcz16_0
       try clear hcz16_1
       try clear hcz17_0
       try clear hcz17_1
       try clear hcz17_2
       try clear hcz17_3
       try clear hcz17_4
       try clear hcz17_5
       try clear hcz17_6
       try clear hcz17_7
       try clear hcz17_8
       try clear hcz21_0
       try clear hcz21_1
       try clear hcz21_2
       try clear hcz21_3
       try clear hcz21_4
       try clear hcz33_0
       try clear hcz33_1
       try clear hcz33_2
       try clear hcz33_3
       try clear hcz33_4
       try clear hcz33_5
       try clear hcz33_6
       try clear hcz33_7
       try clear hcz33_8
       try clear hcz35_0
       try clear hcz35_1
       try clear hcz35_2
       try clear hcz35_3
       try clear hcz35_4
       try clear hcz42_0
       try clear hcz42_1
       try clear hcz48_0
       try clear hcz48_1
       try clear hcz48_2
       try clear hcz48_3
       try clear hcz48_4
       try clear hcz48_5
       try clear hcz48_6
       try clear hcz48_7
       try clear hcz48_8
       try clear hcz53_0
       try clear hcz53_1
       try clear hcz53_2
       try clear hcz53_3
       try clear hcz53_4
       try clear hcz53_5
       try clear hcz53_6
       try clear hcz53_7
       try clear hcz53_8
       try clear hcz58_0
       try clear hcz58_1
       try clear hcz58_2
       try clear hcz58_3
       try clear hcz58_4
       try clear hcz58_5
       try clear hcz58_6
       try clear hcz58_7
       try clear hcz58_8
       try clear hcz67_0
       try clear hcz67_1
       try clear hcz70_0
       try clear hcz70_1
       try clear hcz74_0
       try clear hcz74_1
       try clear hcz77_0
       try clear hcz77_1
       try clear hcz7_0
       try clear hcz7_1
       try clear hcz7_2
       try clear hcz7_3
       try clear hcz7_4
       try clear hcz7_5
       try clear hcz7_6
       try clear hcz7_7
       try clear hcz7_8
       try clear hcz82_0
       try clear hcz82_1
       try clear hcz85_0
       try clear hcz85_1
       try clear hcz89_0
       try clear hcz89_1
       try clear hcz92_0
       try clear hcz92_1
       try clear hfz10_0
       try clear hfz10_1
       try clear hfz10_2
       try clear hfz10_3
       try clear hfz10_4
       try clear hfz10_5
       try clear hfz10_6
       try clear hfz10_7
       try clear hfz10_8
       try clear hfz16_0
       try clear hfz16_1
       try clear hfz17_0
       try clear hfz17_1
       try clear hfz17_2
       try clear hfz17_3
       try clear hfz17_4
       try clear hfz17_5
       try clear hfz17_6
       try clear hfz17_7
       try clear hfz17_8
       try clear hfz21_0
       try clear hfz21_1
       try clear hfz21_2
       try clear hfz21_3
       try clear hfz21_4
       try clear hfz33_0
       try clear hfz33_1
       try clear hfz33_2
       try clear hfz33_3
       try clear hfz33_4
       try clear hfz33_5
       try clear hfz33_6
       try clear hfz33_7
       try clear hfz33_8
       try clear hfz35_0
       try clear hfz35_1
       try clear hfz35_2
       try clear hfz35_3
       try clear hfz35_4
       try clear hfz42_0
       try clear hfz42_1
       try clear hfz48_0
       try clear hfz48_1
       try clear hfz48_2
       try clear hfz48_3
       try clear hfz48_4
       try clear hfz48_5
       try clear hfz48_6
       try clear hfz48_7
       try clear hfz48_8
       try clear hfz53_0
       try clear hfz53_1
       try clear hfz53_2
       try clear hfz53_3
       try clear hfz53_4
       try clear hfz53_5
       try clear hfz53_6
       try clear hfz53_7
       try clear hfz53_8
       try clear hfz58_0
       try clear hfz58_1
       try clear hfz58_2
       try clear hfz58_3
       try clear hfz58_4
       try clear hfz58_5
       try clear hfz58_6
       try clear hfz58_7
       try clear hfz58_8
       try clear hfz67_0
       try clear hfz67_1
       try clear hfz70_0
       try clear hfz70_1
       try clear hfz74_0
       try clear hfz74_1
       try clear hfz77_0
       try clear hfz77_1
       try clear hfz7_0
       try clear hfz7_1
       try clear hfz7_2
       try clear hfz7_3
       try clear hfz7_4
       try clear hfz7_5
       try clear hfz7_6
       try clear hfz7_7
       try clear hfz7_8
       try clear hfz82_0
       try clear hfz82_1
       try clear hfz85_0
       try clear hfz85_1
       try clear hfz89_0
       try clear hfz89_1
       try clear hfz92_0
       try clear hfz92_1
       try clear hx275_0
       try clear hx275_1
       try clear hx283_0
       try clear hx283_1
       try clear hx283_2
       try clear hx283_3
       try clear hx283_4
       try clear hx283_5
       try clear hx283_6
       try clear hx283_7
       try clear p2
       try clear p27
       try clear p275
       try clear p283
       try clear p6
       try clear q2
       try clear q27
       try clear q275
       try clear q283
       obtain ⟨kq, x100_53, rfl, HA, HJ53, HO_255000, HO_255006, HO_255007, HO_275003, HO_275004, BK254, BK273, BK274, BK282, HB⟩ := hcut
       cases kq with
       | zero => exact absurd HA.out (by simp [tolllaw07_FilterAways.j3])
       | succ kj53 =>
        have H := HA.out
        clear HA
        simp only [tolllaw07_FilterAways.j3] at H
        by_cases c93 : x100_53 = true
        ·subst c93
         have H1 : (none) = some r := by rw [if_pos rfl] at H; exact H
         clear H
         have H := H1
         clear H1
         exact absurd H (by simp)
        ·replace c93 := Bool.eq_false_iff.mpr c93
         subst c93
         have H1 : (if t272 = 0 then (if t269 = true then (if t270 = 301 then (if (t271.size : Int) > 8 then (if 0 ≤ 8 then (if 8 ≤ (t271.size : Int) then (if (t271.extract 0 8).toList = ([104, 116, 116, 112, 115, 58, 47, 47] : List UInt8) then ((tolllaw07_awake.f kj53).bind fun t284 => (some t284)) else (none)) else (none)) else (none)) else (none)) else (if t270 = 302 then (if (t271.size : Int) > 8 then (if 0 ≤ 8 then (if 8 ≤ (t271.size : Int) then (if (t271.extract 0 8).toList = ([104, 116, 116, 112, 115, 58, 47, 47] : List UInt8) then ((tolllaw07_awake.f kj53).bind fun t285 => (some t285)) else (none)) else (none)) else (none)) else (none)) else (none))) else (if t270 = 301 then (if (t271.size : Int) > 7 then (if 0 ≤ 7 then (if 7 ≤ (t271.size : Int) then (if (t271.extract 0 7).toList = ([104, 116, 116, 112, 58, 47, 47] : List UInt8) then ((tolllaw07_awake.f kj53).bind fun t286 => (some t286)) else (none)) else (none)) else (none)) else (none)) else (if t270 = 302 then (if (t271.size : Int) > 7 then (if 0 ≤ 7 then (if 7 ≤ (t271.size : Int) then (if (t271.extract 0 7).toList = ([104, 116, 116, 112, 58, 47, 47] : List UInt8) then ((tolllaw07_awake.f kj53).bind fun t287 => (some t287)) else (none)) else (none)) else (none)) else (none)) else (none)))) else (if (t270 == 0 && (t271.toList == ([] : List UInt8))) = true then ((tolllaw07_awake.f kj53).bind fun t288 => (some t288)) else (none))) = some r := by rw [if_neg (show ¬ (false = true) by decide)] at H; exact H
         clear H
         have H := H1
         clear H1
         by_cases c94 : t272 = 0
         ·rw [if_pos c94] at H
          have c94b0 : (t272 == 0) = true := beq_iff_eq.mpr c94
          have c94b1 : (t272 != 0) = false := bne_eq_false_iff_eq.mpr c94
          clear c94
          by_cases c95 : t269 = true
          ·subst c95
           have H1 : (if t270 = 301 then (if (t271.size : Int) > 8 then (if 0 ≤ 8 then (if 8 ≤ (t271.size : Int) then (if (t271.extract 0 8).toList = ([104, 116, 116, 112, 115, 58, 47, 47] : List UInt8) then ((tolllaw07_awake.f kj53).bind fun t284 => (some t284)) else (none)) else (none)) else (none)) else (none)) else (if t270 = 302 then (if (t271.size : Int) > 8 then (if 0 ≤ 8 then (if 8 ≤ (t271.size : Int) then (if (t271.extract 0 8).toList = ([104, 116, 116, 112, 115, 58, 47, 47] : List UInt8) then ((tolllaw07_awake.f kj53).bind fun t285 => (some t285)) else (none)) else (none)) else (none)) else (none)) else (none))) = some r := by rw [if_pos rfl] at H; exact H
           clear H
           have H := H1
           clear H1
           by_cases c96 : t270 = 301
           ·rw [if_pos c96] at H
            have c96b0 : (t270 == 301) = true := beq_iff_eq.mpr c96
            have c96b1 : (t270 != 301) = false := bne_eq_false_iff_eq.mpr c96
            clear c96
            by_cases c97 : (t271.size : Int) > 8
            ·rw [if_pos c97] at H
             have c97b0 : decide (8 < (t271.size : Int)) = true := decide_eq_true c97
             have c97b1 : decide (8 < t271.size) = true := decide_eq_true (by omega)
             clear c97
             by_cases c98 : 0 ≤ 8
             ·rw [if_pos c98] at H
              have c98b0 := eq_true c98
              have c98b1 : decide (0 ≤ 8) = true := decide_eq_true c98
              clear c98
              by_cases c99 : 8 ≤ (t271.size : Int)
              ·rw [if_pos c99] at H
               have c99b0 := eq_true c99
               have c99b1 : decide (8 ≤ (t271.size : Int)) = true := decide_eq_true c99
               clear c99
               by_cases c100 : (t271.extract 0 8).toList = ([104, 116, 116, 112, 115, 58, 47, 47] : List UInt8)
               ·rw [if_pos c100] at H
                have c100b0 : ((t271.extract 0 8).toList == ([104, 116, 116, 112, 115, 58, 47, 47] : List UInt8)) = true := beq_iff_eq.mpr c100
                have c100b1 : ((t271.extract 0 8).toList != ([104, 116, 116, 112, 115, 58, 47, 47] : List UInt8)) = false := bne_eq_false_iff_eq.mpr c100
                clear c100
                replace H := Option.bind_eq_some_iff.mp H
                obtain ⟨t284, A1010, H⟩ := H
                replace H : (some t284) = some r := H
                have A101 := Aside0.mk A1010
                clear A1010
                obtain rfl := Option.some.inj H
                have hnb102 := NB254_273.out
                have hnc102 := NB273_254.out
                have hnb103 := NB254_274.out
                have hnc103 := NB274_254.out
                have hnb104 := NB254_282.out
                have hnc104 := NB282_254.out
                have hcz105_0 : wc.cell? ⟨gb254, 0, none⟩ = some (.slice Ao9 t255.length co9) := (blk_cell BK254.out 0).trans rfl
                have hcz105_1 : wc.cell? ⟨gb254, 1, none⟩ = some (.int .i64 t258) := (blk_cell BK254.out 1).trans rfl
                have hcz105_2 : wc.cell? ⟨gb254, 2, none⟩ = some (.string t259) := (blk_cell BK254.out 2).trans rfl
                have hcz105_3 : wc.cell? ⟨gb254, 3, none⟩ = some (.string t260) := (blk_cell BK254.out 3).trans rfl
                have hcz105_4 : wc.cell? ⟨gb254, 4, none⟩ = some (.string t261) := (blk_cell BK254.out 4).trans rfl
                have hcz105_5 : wc.cell? ⟨gb254, 5, none⟩ = some (.string t262) := (blk_cell BK254.out 5).trans rfl
                have hcz105_6 : wc.cell? ⟨gb254, 6, none⟩ = some (.slice Ao11 t263.length co11) := (blk_cell BK254.out 6).trans rfl
                have hcz105_7 : wc.cell? ⟨gb254, 7, none⟩ = some (.slice Ao12 t266.length co12) := (blk_cell BK254.out 7).trans rfl
                have hcz105_8 : wc.cell? ⟨gb254, 8, none⟩ = some (.bool true) := (blk_cell BK254.out 8).trans rfl
                have hfz105_0 := blk_frozen BK254.out 0
                have hfz105_1 := blk_frozen BK254.out 1
                have hfz105_2 := blk_frozen BK254.out 2
                have hfz105_3 := blk_frozen BK254.out 3
                have hfz105_4 := blk_frozen BK254.out 4
                have hfz105_5 := blk_frozen BK254.out 5
                have hfz105_6 := blk_frozen BK254.out 6
                have hfz105_7 := blk_frozen BK254.out 7
                have hfz105_8 := blk_frozen BK254.out 8
                have hnb106 := NB273_274.out
                have hnc106 := NB274_273.out
                have hnb107 := NB273_282.out
                have hnc107 := NB282_273.out
                have hcz108_0 : wc.cell? ⟨gb273, 0, none⟩ = some (.int .i64 t270) := (blk_cell BK273.out 0).trans rfl
                have hcz108_1 : wc.cell? ⟨gb273, 1, none⟩ = some (.string t271) := (blk_cell BK273.out 1).trans rfl
                have hfz108_0 := blk_frozen BK273.out 0
                have hfz108_1 := blk_frozen BK273.out 1
                go_wp2_with (first | (go_at_call 14; (with_reducible refine (tolllaw07_awake.calls kj53  t284 _ (gm_ HGL.out (bel_ HB.out)) A101.out).mono ?_); rintro e w109 ⟨rfl, hb⟩; have n0_ := am_ (Kd.R_below (R_ HO_255000.out) hb); have n1_ := am_ (Kd.R_below (R_ HO_255006.out) hb); have n2_ := am_ (Kd.R_below (R_ HO_255007.out) hb); have n3_ := am_ (Kd.R_below (R_ HO_275003.out) hb); have n4_ := am_ (Kd.R_below (R_ HO_275004.out) hb); have n5_ := am_ (blk_below (g := gb254) (o := .cells #[.slice Ao9 t255.length co9, .int .i64 t258, .string t259, .string t260, .string t261, .string t262, .slice Ao11 t263.length co11, .slice Ao12 t266.length co12, .bool true] 35 (0, 0)) (blk_ BK254.out) hb); have n6_ := am_ (blk_below (g := gb273) (o := .cells #[.int .i64 t270, .string t271] 44 (0, 0)) (blk_ BK273.out) hb); have n7_ := am_ (blk_below (g := gb274) (o := .cells #[.string t260, .string t261, .string t262, .slice Ao11 t263.length co11, .slice Ao36 x275004_4.length co36] 33 (0, 0)) (blk_ BK274.out) hb); have n8_ := am_ (blk_below (g := gb282) (o := .cells #[.int .i64 t279, .string t280] 44 (0, 0)) (blk_ BK282.out) hb); have n9_ := am_ (below_step (bel_ HB.out) hb); clear HO_255000 HO_255006 HO_255007 HO_275003 HO_275004 BK254 BK273 BK274 BK282 HB; have HO_255000 := n0_; have HO_255006 := n1_; have HO_255007 := n2_; have HO_275003 := n3_; have HO_275004 := n4_; have BK254 := n5_; have BK273 := n6_; have BK274 := n7_; have BK282 := n8_; have HB := n9_; clear n0_ n1_ n2_ n3_ n4_ n5_ n6_ n7_ n8_ n9_; (try clear hb); (try clear hb2); (try clear hk); (try clear hi)))
                go_ret
                exact ⟨fi_, bel_ HB.out⟩
               ·rw [if_neg c100] at H
                exact absurd H (by simp)
              ·rw [if_neg c99] at H
               exact absurd H (by simp)
             ·rw [if_neg c98] at H
              exact absurd H (by simp)
            ·rw [if_neg c97] at H
             exact absurd H (by simp)
           ·rw [if_neg c96] at H
            have c96b0 : (t270 == 301) = false := beq_eq_false_iff_ne.mpr c96
            have c96b1 : (t270 != 301) = true := bne_iff_ne.mpr c96
            by_cases c110 : t270 = 302
            ·rw [if_pos c110] at H
             have c110b0 : (t270 == 302) = true := beq_iff_eq.mpr c110
             have c110b1 : (t270 != 302) = false := bne_eq_false_iff_eq.mpr c110
             clear c110
             by_cases c111 : (t271.size : Int) > 8
             ·rw [if_pos c111] at H
              have c111b0 : decide (8 < (t271.size : Int)) = true := decide_eq_true c111
              have c111b1 : decide (8 < t271.size) = true := decide_eq_true (by omega)
              clear c111
              by_cases c112 : 0 ≤ 8
              ·rw [if_pos c112] at H
               have c112b0 := eq_true c112
               have c112b1 : decide (0 ≤ 8) = true := decide_eq_true c112
               clear c112
               by_cases c113 : 8 ≤ (t271.size : Int)
               ·rw [if_pos c113] at H
                have c113b0 := eq_true c113
                have c113b1 : decide (8 ≤ (t271.size : Int)) = true := decide_eq_true c113
                clear c113
                by_cases c114 : (t271.extract 0 8).toList = ([104, 116, 116, 112, 115, 58, 47, 47] : List UInt8)
                ·rw [if_pos c114] at H
                 have c114b0 : ((t271.extract 0 8).toList == ([104, 116, 116, 112, 115, 58, 47, 47] : List UInt8)) = true := beq_iff_eq.mpr c114
                 have c114b1 : ((t271.extract 0 8).toList != ([104, 116, 116, 112, 115, 58, 47, 47] : List UInt8)) = false := bne_eq_false_iff_eq.mpr c114
                 clear c114
                 replace H := Option.bind_eq_some_iff.mp H
                 obtain ⟨t285, A1150, H⟩ := H
                 replace H : (some t285) = some r := H
                 have A115 := Aside0.mk A1150
                 clear A1150
                 obtain rfl := Option.some.inj H
                 have hnb116 := NB254_273.out
                 have hnc116 := NB273_254.out
                 have hnb117 := NB254_274.out
                 have hnc117 := NB274_254.out
                 have hnb118 := NB254_282.out
                 have hnc118 := NB282_254.out
                 have hcz119_0 : wc.cell? ⟨gb254, 0, none⟩ = some (.slice Ao9 t255.length co9) := (blk_cell BK254.out 0).trans rfl
                 have hcz119_1 : wc.cell? ⟨gb254, 1, none⟩ = some (.int .i64 t258) := (blk_cell BK254.out 1).trans rfl
                 have hcz119_2 : wc.cell? ⟨gb254, 2, none⟩ = some (.string t259) := (blk_cell BK254.out 2).trans rfl
                 have hcz119_3 : wc.cell? ⟨gb254, 3, none⟩ = some (.string t260) := (blk_cell BK254.out 3).trans rfl
                 have hcz119_4 : wc.cell? ⟨gb254, 4, none⟩ = some (.string t261) := (blk_cell BK254.out 4).trans rfl
                 have hcz119_5 : wc.cell? ⟨gb254, 5, none⟩ = some (.string t262) := (blk_cell BK254.out 5).trans rfl
                 have hcz119_6 : wc.cell? ⟨gb254, 6, none⟩ = some (.slice Ao11 t263.length co11) := (blk_cell BK254.out 6).trans rfl
                 have hcz119_7 : wc.cell? ⟨gb254, 7, none⟩ = some (.slice Ao12 t266.length co12) := (blk_cell BK254.out 7).trans rfl
                 have hcz119_8 : wc.cell? ⟨gb254, 8, none⟩ = some (.bool true) := (blk_cell BK254.out 8).trans rfl
                 have hfz119_0 := blk_frozen BK254.out 0
                 have hfz119_1 := blk_frozen BK254.out 1
                 have hfz119_2 := blk_frozen BK254.out 2
                 have hfz119_3 := blk_frozen BK254.out 3
                 have hfz119_4 := blk_frozen BK254.out 4
                 have hfz119_5 := blk_frozen BK254.out 5
                 have hfz119_6 := blk_frozen BK254.out 6
                 have hfz119_7 := blk_frozen BK254.out 7
                 have hfz119_8 := blk_frozen BK254.out 8
                 have hnb120 := NB273_274.out
                 have hnc120 := NB274_273.out
                 have hnb121 := NB273_282.out
                 have hnc121 := NB282_273.out
                 have hcz122_0 : wc.cell? ⟨gb273, 0, none⟩ = some (.int .i64 t270) := (blk_cell BK273.out 0).trans rfl
                 have hcz122_1 : wc.cell? ⟨gb273, 1, none⟩ = some (.string t271) := (blk_cell BK273.out 1).trans rfl
                 have hfz122_0 := blk_frozen BK273.out 0
                 have hfz122_1 := blk_frozen BK273.out 1
                 go_wp2_with (first | (go_at_call 14; (with_reducible refine (tolllaw07_awake.calls kj53  t285 _ (gm_ HGL.out (bel_ HB.out)) A115.out).mono ?_); rintro e w123 ⟨rfl, hb⟩; have n0_ := am_ (Kd.R_below (R_ HO_255000.out) hb); have n1_ := am_ (Kd.R_below (R_ HO_255006.out) hb); have n2_ := am_ (Kd.R_below (R_ HO_255007.out) hb); have n3_ := am_ (Kd.R_below (R_ HO_275003.out) hb); have n4_ := am_ (Kd.R_below (R_ HO_275004.out) hb); have n5_ := am_ (blk_below (g := gb254) (o := .cells #[.slice Ao9 t255.length co9, .int .i64 t258, .string t259, .string t260, .string t261, .string t262, .slice Ao11 t263.length co11, .slice Ao12 t266.length co12, .bool true] 35 (0, 0)) (blk_ BK254.out) hb); have n6_ := am_ (blk_below (g := gb273) (o := .cells #[.int .i64 t270, .string t271] 44 (0, 0)) (blk_ BK273.out) hb); have n7_ := am_ (blk_below (g := gb274) (o := .cells #[.string t260, .string t261, .string t262, .slice Ao11 t263.length co11, .slice Ao36 x275004_4.length co36] 33 (0, 0)) (blk_ BK274.out) hb); have n8_ := am_ (blk_below (g := gb282) (o := .cells #[.int .i64 t279, .string t280] 44 (0, 0)) (blk_ BK282.out) hb); have n9_ := am_ (below_step (bel_ HB.out) hb); clear HO_255000 HO_255006 HO_255007 HO_275003 HO_275004 BK254 BK273 BK274 BK282 HB; have HO_255000 := n0_; have HO_255006 := n1_; have HO_255007 := n2_; have HO_275003 := n3_; have HO_275004 := n4_; have BK254 := n5_; have BK273 := n6_; have BK274 := n7_; have BK282 := n8_; have HB := n9_; clear n0_ n1_ n2_ n3_ n4_ n5_ n6_ n7_ n8_ n9_; (try clear hb); (try clear hb2); (try clear hk); (try clear hi)))
                 go_ret
                 exact ⟨fi_, bel_ HB.out⟩
                ·rw [if_neg c114] at H
                 exact absurd H (by simp)
               ·rw [if_neg c113] at H
                exact absurd H (by simp)
              ·rw [if_neg c112] at H
               exact absurd H (by simp)
             ·rw [if_neg c111] at H
              exact absurd H (by simp)
            ·rw [if_neg c110] at H
             exact absurd H (by simp)
          ·replace c95 := Bool.eq_false_iff.mpr c95
           subst c95
           have H1 : (if t270 = 301 then (if (t271.size : Int) > 7 then (if 0 ≤ 7 then (if 7 ≤ (t271.size : Int) then (if (t271.extract 0 7).toList = ([104, 116, 116, 112, 58, 47, 47] : List UInt8) then ((tolllaw07_awake.f kj53).bind fun t286 => (some t286)) else (none)) else (none)) else (none)) else (none)) else (if t270 = 302 then (if (t271.size : Int) > 7 then (if 0 ≤ 7 then (if 7 ≤ (t271.size : Int) then (if (t271.extract 0 7).toList = ([104, 116, 116, 112, 58, 47, 47] : List UInt8) then ((tolllaw07_awake.f kj53).bind fun t287 => (some t287)) else (none)) else (none)) else (none)) else (none)) else (none))) = some r := by rw [if_neg (show ¬ (false = true) by decide)] at H; exact H
           clear H
           have H := H1
           clear H1
           by_cases c124 : t270 = 301
           ·rw [if_pos c124] at H
            have c124b0 : (t270 == 301) = true := beq_iff_eq.mpr c124
            have c124b1 : (t270 != 301) = false := bne_eq_false_iff_eq.mpr c124
            clear c124
            by_cases c125 : (t271.size : Int) > 7
            ·rw [if_pos c125] at H
             have c125b0 : decide (7 < (t271.size : Int)) = true := decide_eq_true c125
             have c125b1 : decide (7 < t271.size) = true := decide_eq_true (by omega)
             clear c125
             by_cases c126 : 0 ≤ 7
             ·rw [if_pos c126] at H
              have c126b0 := eq_true c126
              have c126b1 : decide (0 ≤ 7) = true := decide_eq_true c126
              clear c126
              by_cases c127 : 7 ≤ (t271.size : Int)
              ·rw [if_pos c127] at H
               have c127b0 := eq_true c127
               have c127b1 : decide (7 ≤ (t271.size : Int)) = true := decide_eq_true c127
               clear c127
               by_cases c128 : (t271.extract 0 7).toList = ([104, 116, 116, 112, 58, 47, 47] : List UInt8)
               ·rw [if_pos c128] at H
                have c128b0 : ((t271.extract 0 7).toList == ([104, 116, 116, 112, 58, 47, 47] : List UInt8)) = true := beq_iff_eq.mpr c128
                have c128b1 : ((t271.extract 0 7).toList != ([104, 116, 116, 112, 58, 47, 47] : List UInt8)) = false := bne_eq_false_iff_eq.mpr c128
                clear c128
                replace H := Option.bind_eq_some_iff.mp H
                obtain ⟨t286, A1290, H⟩ := H
                replace H : (some t286) = some r := H
                have A129 := Aside0.mk A1290
                clear A1290
                obtain rfl := Option.some.inj H
                have hnb130 := NB254_273.out
                have hnc130 := NB273_254.out
                have hnb131 := NB254_274.out
                have hnc131 := NB274_254.out
                have hnb132 := NB254_282.out
                have hnc132 := NB282_254.out
                have hcz133_0 : wc.cell? ⟨gb254, 0, none⟩ = some (.slice Ao9 t255.length co9) := (blk_cell BK254.out 0).trans rfl
                have hcz133_1 : wc.cell? ⟨gb254, 1, none⟩ = some (.int .i64 t258) := (blk_cell BK254.out 1).trans rfl
                have hcz133_2 : wc.cell? ⟨gb254, 2, none⟩ = some (.string t259) := (blk_cell BK254.out 2).trans rfl
                have hcz133_3 : wc.cell? ⟨gb254, 3, none⟩ = some (.string t260) := (blk_cell BK254.out 3).trans rfl
                have hcz133_4 : wc.cell? ⟨gb254, 4, none⟩ = some (.string t261) := (blk_cell BK254.out 4).trans rfl
                have hcz133_5 : wc.cell? ⟨gb254, 5, none⟩ = some (.string t262) := (blk_cell BK254.out 5).trans rfl
                have hcz133_6 : wc.cell? ⟨gb254, 6, none⟩ = some (.slice Ao11 t263.length co11) := (blk_cell BK254.out 6).trans rfl
                have hcz133_7 : wc.cell? ⟨gb254, 7, none⟩ = some (.slice Ao12 t266.length co12) := (blk_cell BK254.out 7).trans rfl
                have hcz133_8 : wc.cell? ⟨gb254, 8, none⟩ = some (.bool false) := (blk_cell BK254.out 8).trans rfl
                have hfz133_0 := blk_frozen BK254.out 0
                have hfz133_1 := blk_frozen BK254.out 1
                have hfz133_2 := blk_frozen BK254.out 2
                have hfz133_3 := blk_frozen BK254.out 3
                have hfz133_4 := blk_frozen BK254.out 4
                have hfz133_5 := blk_frozen BK254.out 5
                have hfz133_6 := blk_frozen BK254.out 6
                have hfz133_7 := blk_frozen BK254.out 7
                have hfz133_8 := blk_frozen BK254.out 8
                have hnb134 := NB273_274.out
                have hnc134 := NB274_273.out
                have hnb135 := NB273_282.out
                have hnc135 := NB282_273.out
                have hcz136_0 : wc.cell? ⟨gb273, 0, none⟩ = some (.int .i64 t270) := (blk_cell BK273.out 0).trans rfl
                have hcz136_1 : wc.cell? ⟨gb273, 1, none⟩ = some (.string t271) := (blk_cell BK273.out 1).trans rfl
                have hfz136_0 := blk_frozen BK273.out 0
                have hfz136_1 := blk_frozen BK273.out 1
                go_wp2_with (first | (go_at_call 14; (with_reducible refine (tolllaw07_awake.calls kj53  t286 _ (gm_ HGL.out (bel_ HB.out)) A129.out).mono ?_); rintro e w137 ⟨rfl, hb⟩; have n0_ := am_ (Kd.R_below (R_ HO_255000.out) hb); have n1_ := am_ (Kd.R_below (R_ HO_255006.out) hb); have n2_ := am_ (Kd.R_below (R_ HO_255007.out) hb); have n3_ := am_ (Kd.R_below (R_ HO_275003.out) hb); have n4_ := am_ (Kd.R_below (R_ HO_275004.out) hb); have n5_ := am_ (blk_below (g := gb254) (o := .cells #[.slice Ao9 t255.length co9, .int .i64 t258, .string t259, .string t260, .string t261, .string t262, .slice Ao11 t263.length co11, .slice Ao12 t266.length co12, .bool false] 35 (0, 0)) (blk_ BK254.out) hb); have n6_ := am_ (blk_below (g := gb273) (o := .cells #[.int .i64 t270, .string t271] 44 (0, 0)) (blk_ BK273.out) hb); have n7_ := am_ (blk_below (g := gb274) (o := .cells #[.string t260, .string t261, .string t262, .slice Ao11 t263.length co11, .slice Ao36 x275004_4.length co36] 33 (0, 0)) (blk_ BK274.out) hb); have n8_ := am_ (blk_below (g := gb282) (o := .cells #[.int .i64 t279, .string t280] 44 (0, 0)) (blk_ BK282.out) hb); have n9_ := am_ (below_step (bel_ HB.out) hb); clear HO_255000 HO_255006 HO_255007 HO_275003 HO_275004 BK254 BK273 BK274 BK282 HB; have HO_255000 := n0_; have HO_255006 := n1_; have HO_255007 := n2_; have HO_275003 := n3_; have HO_275004 := n4_; have BK254 := n5_; have BK273 := n6_; have BK274 := n7_; have BK282 := n8_; have HB := n9_; clear n0_ n1_ n2_ n3_ n4_ n5_ n6_ n7_ n8_ n9_; (try clear hb); (try clear hb2); (try clear hk); (try clear hi)))
                go_ret
                exact ⟨fi_, bel_ HB.out⟩
               ·rw [if_neg c128] at H
                exact absurd H (by simp)
              ·rw [if_neg c127] at H
               exact absurd H (by simp)
             ·rw [if_neg c126] at H
              exact absurd H (by simp)
            ·rw [if_neg c125] at H
             exact absurd H (by simp)
           ·rw [if_neg c124] at H
            have c124b0 : (t270 == 301) = false := beq_eq_false_iff_ne.mpr c124
            have c124b1 : (t270 != 301) = true := bne_iff_ne.mpr c124
            by_cases c138 : t270 = 302
            ·rw [if_pos c138] at H
             have c138b0 : (t270 == 302) = true := beq_iff_eq.mpr c138
             have c138b1 : (t270 != 302) = false := bne_eq_false_iff_eq.mpr c138
             clear c138
             by_cases c139 : (t271.size : Int) > 7
             ·rw [if_pos c139] at H
              have c139b0 : decide (7 < (t271.size : Int)) = true := decide_eq_true c139
              have c139b1 : decide (7 < t271.size) = true := decide_eq_true (by omega)
              clear c139
              by_cases c140 : 0 ≤ 7
              ·rw [if_pos c140] at H
               have c140b0 := eq_true c140
               have c140b1 : decide (0 ≤ 7) = true := decide_eq_true c140
               clear c140
               by_cases c141 : 7 ≤ (t271.size : Int)
               ·rw [if_pos c141] at H
                have c141b0 := eq_true c141
                have c141b1 : decide (7 ≤ (t271.size : Int)) = true := decide_eq_true c141
                clear c141
                by_cases c142 : (t271.extract 0 7).toList = ([104, 116, 116, 112, 58, 47, 47] : List UInt8)
                ·rw [if_pos c142] at H
                 have c142b0 : ((t271.extract 0 7).toList == ([104, 116, 116, 112, 58, 47, 47] : List UInt8)) = true := beq_iff_eq.mpr c142
                 have c142b1 : ((t271.extract 0 7).toList != ([104, 116, 116, 112, 58, 47, 47] : List UInt8)) = false := bne_eq_false_iff_eq.mpr c142
                 clear c142
                 replace H := Option.bind_eq_some_iff.mp H
                 obtain ⟨t287, A1430, H⟩ := H
                 replace H : (some t287) = some r := H
                 have A143 := Aside0.mk A1430
                 clear A1430
                 obtain rfl := Option.some.inj H
                 have hnb144 := NB254_273.out
                 have hnc144 := NB273_254.out
                 have hnb145 := NB254_274.out
                 have hnc145 := NB274_254.out
                 have hnb146 := NB254_282.out
                 have hnc146 := NB282_254.out
                 have hcz147_0 : wc.cell? ⟨gb254, 0, none⟩ = some (.slice Ao9 t255.length co9) := (blk_cell BK254.out 0).trans rfl
                 have hcz147_1 : wc.cell? ⟨gb254, 1, none⟩ = some (.int .i64 t258) := (blk_cell BK254.out 1).trans rfl
                 have hcz147_2 : wc.cell? ⟨gb254, 2, none⟩ = some (.string t259) := (blk_cell BK254.out 2).trans rfl
                 have hcz147_3 : wc.cell? ⟨gb254, 3, none⟩ = some (.string t260) := (blk_cell BK254.out 3).trans rfl
                 have hcz147_4 : wc.cell? ⟨gb254, 4, none⟩ = some (.string t261) := (blk_cell BK254.out 4).trans rfl
                 have hcz147_5 : wc.cell? ⟨gb254, 5, none⟩ = some (.string t262) := (blk_cell BK254.out 5).trans rfl
                 have hcz147_6 : wc.cell? ⟨gb254, 6, none⟩ = some (.slice Ao11 t263.length co11) := (blk_cell BK254.out 6).trans rfl
                 have hcz147_7 : wc.cell? ⟨gb254, 7, none⟩ = some (.slice Ao12 t266.length co12) := (blk_cell BK254.out 7).trans rfl
                 have hcz147_8 : wc.cell? ⟨gb254, 8, none⟩ = some (.bool false) := (blk_cell BK254.out 8).trans rfl
                 have hfz147_0 := blk_frozen BK254.out 0
                 have hfz147_1 := blk_frozen BK254.out 1
                 have hfz147_2 := blk_frozen BK254.out 2
                 have hfz147_3 := blk_frozen BK254.out 3
                 have hfz147_4 := blk_frozen BK254.out 4
                 have hfz147_5 := blk_frozen BK254.out 5
                 have hfz147_6 := blk_frozen BK254.out 6
                 have hfz147_7 := blk_frozen BK254.out 7
                 have hfz147_8 := blk_frozen BK254.out 8
                 have hnb148 := NB273_274.out
                 have hnc148 := NB274_273.out
                 have hnb149 := NB273_282.out
                 have hnc149 := NB282_273.out
                 have hcz150_0 : wc.cell? ⟨gb273, 0, none⟩ = some (.int .i64 t270) := (blk_cell BK273.out 0).trans rfl
                 have hcz150_1 : wc.cell? ⟨gb273, 1, none⟩ = some (.string t271) := (blk_cell BK273.out 1).trans rfl
                 have hfz150_0 := blk_frozen BK273.out 0
                 have hfz150_1 := blk_frozen BK273.out 1
                 go_wp2_with (first | (go_at_call 14; (with_reducible refine (tolllaw07_awake.calls kj53  t287 _ (gm_ HGL.out (bel_ HB.out)) A143.out).mono ?_); rintro e w151 ⟨rfl, hb⟩; have n0_ := am_ (Kd.R_below (R_ HO_255000.out) hb); have n1_ := am_ (Kd.R_below (R_ HO_255006.out) hb); have n2_ := am_ (Kd.R_below (R_ HO_255007.out) hb); have n3_ := am_ (Kd.R_below (R_ HO_275003.out) hb); have n4_ := am_ (Kd.R_below (R_ HO_275004.out) hb); have n5_ := am_ (blk_below (g := gb254) (o := .cells #[.slice Ao9 t255.length co9, .int .i64 t258, .string t259, .string t260, .string t261, .string t262, .slice Ao11 t263.length co11, .slice Ao12 t266.length co12, .bool false] 35 (0, 0)) (blk_ BK254.out) hb); have n6_ := am_ (blk_below (g := gb273) (o := .cells #[.int .i64 t270, .string t271] 44 (0, 0)) (blk_ BK273.out) hb); have n7_ := am_ (blk_below (g := gb274) (o := .cells #[.string t260, .string t261, .string t262, .slice Ao11 t263.length co11, .slice Ao36 x275004_4.length co36] 33 (0, 0)) (blk_ BK274.out) hb); have n8_ := am_ (blk_below (g := gb282) (o := .cells #[.int .i64 t279, .string t280] 44 (0, 0)) (blk_ BK282.out) hb); have n9_ := am_ (below_step (bel_ HB.out) hb); clear HO_255000 HO_255006 HO_255007 HO_275003 HO_275004 BK254 BK273 BK274 BK282 HB; have HO_255000 := n0_; have HO_255006 := n1_; have HO_255007 := n2_; have HO_275003 := n3_; have HO_275004 := n4_; have BK254 := n5_; have BK273 := n6_; have BK274 := n7_; have BK282 := n8_; have HB := n9_; clear n0_ n1_ n2_ n3_ n4_ n5_ n6_ n7_ n8_ n9_; (try clear hb); (try clear hb2); (try clear hk); (try clear hi)))
                 go_ret
                 exact ⟨fi_, bel_ HB.out⟩
                ·rw [if_neg c142] at H
                 exact absurd H (by simp)
               ·rw [if_neg c141] at H
                exact absurd H (by simp)
              ·rw [if_neg c140] at H
               exact absurd H (by simp)
             ·rw [if_neg c139] at H
              exact absurd H (by simp)
            ·rw [if_neg c138] at H
             exact absurd H (by simp)
         ·rw [if_neg c94] at H
          have c94b0 : (t272 == 0) = false := beq_eq_false_iff_ne.mpr c94
          have c94b1 : (t272 != 0) = true := bne_iff_ne.mpr c94
          by_cases c152 : (t270 == 0 && (t271.toList == ([] : List UInt8))) = true
          ·rw [if_pos c152] at H
           (try (have c152k := c152; simp only [Bool.and_eq_true, beq_iff_eq, Bool.not_eq_true'] at c152k; have c152l := eq_true c152k; clear c152k)); (try (have c152m := c152; simp only [beq_nil_isEmpty] at c152m))
           have c152b0 : (t270 == 0 && (t271.toList == ([] : List UInt8))) = true := c152
           (try (have c152b1 : decide (t270 = 0 && (t271.toList == ([] : List UInt8))) = true := by simpa using c152))
           (try (have c152b2 : (t270 == 0 && (t271.toList == ([] : List UInt8))) = true := by simpa using c152))
           clear c152
           replace H := Option.bind_eq_some_iff.mp H
           obtain ⟨t288, A1530, H⟩ := H
           replace H : (some t288) = some r := H
           have A153 := Aside0.mk A1530
           clear A1530
           obtain rfl := Option.some.inj H
           have hnb154 := NB273_254.out
           have hnc154 := NB254_273.out
           have hnb155 := NB273_274.out
           have hnc155 := NB274_273.out
           have hnb156 := NB273_282.out
           have hnc156 := NB282_273.out
           have hcz157_0 : wc.cell? ⟨gb273, 0, none⟩ = some (.int .i64 t270) := (blk_cell BK273.out 0).trans rfl
           have hcz157_1 : wc.cell? ⟨gb273, 1, none⟩ = some (.string t271) := (blk_cell BK273.out 1).trans rfl
           have hfz157_0 := blk_frozen BK273.out 0
           have hfz157_1 := blk_frozen BK273.out 1
           go_wp2_with (first | (go_at_call 14; (with_reducible refine (tolllaw07_awake.calls kj53  t288 _ (gm_ HGL.out (bel_ HB.out)) A153.out).mono ?_); rintro e w158 ⟨rfl, hb⟩; have n0_ := am_ (Kd.R_below (R_ HO_255000.out) hb); have n1_ := am_ (Kd.R_below (R_ HO_255006.out) hb); have n2_ := am_ (Kd.R_below (R_ HO_255007.out) hb); have n3_ := am_ (Kd.R_below (R_ HO_275003.out) hb); have n4_ := am_ (Kd.R_below (R_ HO_275004.out) hb); have n5_ := am_ (blk_below (g := gb254) (o := .cells #[.slice Ao9 t255.length co9, .int .i64 t258, .string t259, .string t260, .string t261, .string t262, .slice Ao11 t263.length co11, .slice Ao12 t266.length co12, .bool t269] 35 (0, 0)) (blk_ BK254.out) hb); have n6_ := am_ (blk_below (g := gb273) (o := .cells #[.int .i64 t270, .string t271] 44 (0, 0)) (blk_ BK273.out) hb); have n7_ := am_ (blk_below (g := gb274) (o := .cells #[.string t260, .string t261, .string t262, .slice Ao11 t263.length co11, .slice Ao36 x275004_4.length co36] 33 (0, 0)) (blk_ BK274.out) hb); have n8_ := am_ (blk_below (g := gb282) (o := .cells #[.int .i64 t279, .string t280] 44 (0, 0)) (blk_ BK282.out) hb); have n9_ := am_ (below_step (bel_ HB.out) hb); clear HO_255000 HO_255006 HO_255007 HO_275003 HO_275004 BK254 BK273 BK274 BK282 HB; have HO_255000 := n0_; have HO_255006 := n1_; have HO_255007 := n2_; have HO_275003 := n3_; have HO_275004 := n4_; have BK254 := n5_; have BK273 := n6_; have BK274 := n7_; have BK282 := n8_; have HB := n9_; clear n0_ n1_ n2_ n3_ n4_ n5_ n6_ n7_ n8_ n9_; (try clear hb); (try clear hb2); (try clear hk); (try clear hi)))
           go_ret
           exact ⟨fi_, bel_ HB.out⟩
          ·rw [if_neg c152] at H
           (try (have c152k := c152; simp only [Bool.and_eq_true, beq_iff_eq, Bool.not_eq_true'] at c152k; have c152l := eq_false c152k; clear c152k)); (try (have c152m := c152; simp only [beq_nil_isEmpty] at c152m))
           exact absurd H (by simp)

/-- THE ONE PURE STATEMENT of tolllaw07_FilterAways. -/
def tolllaw07_FilterAways.Pure : Prop := ∀ (l0_0 : List (S26)) (a0_1 : Int) (a0_2 : ByteArray) (a0_3 : ByteArray) (a0_4 : ByteArray) (a0_5 : ByteArray) (l0_6 : List (S59)) (l0_7 : List (S59)) (a0_8 : Bool) (l1 : List (S59)), ((l0_0.length ≤ maxLen ∧ l0_0.length * 96 ≤ 140737488351232 ∧ ∀ y ∈ l0_0, ((Lit.int .i64 y.f0).wf = true) ∧ (y.f1.size ≤ 140737488351232) ∧ (y.f2.size ≤ 140737488351232) ∧ (y.f3.size ≤ 140737488351232) ∧ ((Lit.int .i64 y.f4).wf = true) ∧ (y.f5.size ≤ 140737488351232) ∧ (True) ∧ ((Lit.int .i64 y.f7).wf = true)) ∧ (((Lit.int .i64 a0_1).wf = true) ∧ (a0_2.size ≤ 140737488351232)) ∧ ((a0_3.size ≤ 140737488351232) ∧ (a0_4.size ≤ 140737488351232) ∧ (a0_5.size ≤ 140737488351232) ∧ (l0_6.length ≤ maxLen ∧ l0_6.length * 32 ≤ 140737488351232 ∧ ∀ y ∈ l0_6, (y.f0.size ≤ 140737488351232) ∧ (y.f1.size ≤ 140737488351232)) ∧ (l0_7.length ≤ maxLen ∧ l0_7.length * 32 ≤ 140737488351232 ∧ ∀ y ∈ l0_7, (y.f0.size ≤ 140737488351232) ∧ (y.f1.size ≤ 140737488351232))) ∧ (True)) → (l1.length ≤ maxLen ∧ l1.length * 32 ≤ 140737488351232 ∧ ∀ y ∈ l1, (y.f0.size ≤ 140737488351232) ∧ (y.f1.size ≤ 140737488351232)) → ∃ k, tolllaw07_FilterAways.f k l0_0 a0_1 a0_2 a0_3 a0_4 a0_5 l0_6 l0_7 a0_8 l1 = some true

end Go.Proofs.YtfdopmjgiakcdaaGreatDoor.Q
