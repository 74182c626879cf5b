-- written by wip/tool/hprint.py of this repo: the kit's print, with contracts by hand joined; Lean checks it.
import Derived.Test.YtfdopmjgiakcdaaGreatDoorQx0
import Derived.Test.YtfdopmjgiakcdaaGreatDoorQx6
import Derived.Test.YtfdopmjgiakcdaaGreatDoorQx7
namespace Go.Proofs.YtfdopmjgiakcdaaGreatDoor.Q
open Go.RowKit Go.Proofs.YtfdopmjgiakcdaaGreatDoorW.PrintWords Go.Proofs.YtfdopmjgiakcdaaGreatDoorW.PrintLast Go.Proofs.YtfdopmjgiakcdaaGreatDoorW.PrintMore
attribute [local go_sem] max2_int min2_int max_two min_two max_three min_three max_four min_four   -- for this text's walks alone
set_option linter.unusedVariables false
set_option linter.unusedSimpArgs false

/-! ### filter_Away: function 19 -/
mutual
def filter_Away.j0 : Nat → List (S26) → Bool → Bool → Int → ByteArray → ByteArray → ByteArray → ByteArray → List (S59) → List (S59) → Option (Int × ByteArray × Int)
 | 0, _, _, _, _, _, _, _, _, _, _ => none
 | k + 1, x0, x3, x25, x154000, x154001, x155000, x155001, x155002, x155003, x155004 => if x25 = true then (some (0, (⟨#[]⟩ : ByteArray), 1)) else ((slices_IndexFunc_with_filter_Away_1.f x0).bind fun t158 => (if t158 < 0 then (some (0, (⟨#[]⟩ : ByteArray), 3)) else (if 0 ≤ t158 then (if t158 < (x0.length : Int) then (if x3 = true then (filter_Away.j1 k (⟨#[104, 116, 116, 112, 115, 58, 47, 47]⟩ : ByteArray) 443 x154000 x154001 x155000 x155001 x155002 x155003 x155004 ((rd_T26 x0 t158).f0) ((rd_T26 x0 t158).f1) ((rd_T26 x0 t158).f2) ((rd_T26 x0 t158).f3) ((rd_T26 x0 t158).f4) ((rd_T26 x0 t158).f5) ((rd_T26 x0 t158).f6) ((rd_T26 x0 t158).f7)) else (filter_Away.j1 k (⟨#[104, 116, 116, 112, 58, 47, 47]⟩ : ByteArray) 80 x154000 x154001 x155000 x155001 x155002 x155003 x155004 ((rd_T26 x0 t158).f0) ((rd_T26 x0 t158).f1) ((rd_T26 x0 t158).f2) ((rd_T26 x0 t158).f3) ((rd_T26 x0 t158).f4) ((rd_T26 x0 t158).f5) ((rd_T26 x0 t158).f6) ((rd_T26 x0 t158).f7))) else (none)) else (none))))
def filter_Away.j1 : Nat → ByteArray → Int → Int → ByteArray → ByteArray → ByteArray → ByteArray → List (S59) → List (S59) → Int → ByteArray → ByteArray → ByteArray → Int → ByteArray → Bool → Int → Option (Int × ByteArray × Int)
 | 0, _, _, _, _, _, _, _, _, _, _, _, _, _, _, _, _, _ => none
 | k + 1, x12, x13, x154000, x154001, x155000, x155001, x155002, x155003, x155004, x161000, x161001, x161002, x161003, x161004, x161005, x161006, x161007 => if x161003.toList = ([] : List UInt8) then (filter_Away.j2 k x12 x13 x154000 x154001 x155000 x155001 x155002 x155003 x155004 x161000 x161001 x161002 x161003 x161004 x161005 x161006 x161007) else (filter_Away.j2 k x12 x13 x154000 x154001 x155000 x161003 x155002 x155003 x155004 x161000 x161001 x161002 x161003 x161004 x161005 x161006 x161007)
def filter_Away.j2 : Nat → ByteArray → Int → Int → ByteArray → ByteArray → ByteArray → ByteArray → List (S59) → List (S59) → Int → ByteArray → ByteArray → ByteArray → Int → ByteArray → Bool → Int → Option (Int × ByteArray × Int)
 | 0, _, _, _, _, _, _, _, _, _, _, _, _, _, _, _, _, _ => none
 | k + 1, x12, x13, x154000, x154001, x155000, x155001, x155002, x155003, x155004, x161000, x161001, x161002, x161003, x161004, x161005, x161006, x161007 => if x12.size + x155001.size ≤ 9223372036854775807 then (if x161004 = 0 then (filter_Away.j3 k (x12 ++ x155001) false x154000 x154001 x155000 x155001 x155002 x155003 x155004 x161000 x161001 x161002 x161003 x161004 x161005 x161006 x161007) else (filter_Away.j3 k (x12 ++ x155001) (x161004 != x13) x154000 x154001 x155000 x155001 x155002 x155003 x155004 x161000 x161001 x161002 x161003 x161004 x161005 x161006 x161007)) else (none)
def filter_Away.j3 : Nat → ByteArray → Bool → Int → ByteArray → ByteArray → ByteArray → ByteArray → List (S59) → List (S59) → Int → ByteArray → ByteArray → ByteArray → Int → ByteArray → Bool → Int → Option (Int × ByteArray × Int)
 | 0, _, _, _, _, _, _, _, _, _, _, _, _, _, _, _, _, _ => none
 | k + 1, x12, x55, x154000, x154001, x155000, x155001, x155002, x155003, x155004, x161000, x161001, x161002, x161003, x161004, x161005, x161006, x161007 => if x55 = true then ((strconv_Itoa_47.f x161004).bind fun t161 => (if 1 + t161.size ≤ 9223372036854775807 then (if x12.size + ((⟨#[58]⟩ : ByteArray) ++ t161).size ≤ 9223372036854775807 then ((filter_becomes.f k x161000 x161001 x161002 x161003 x161004 x161005 x161006 x161007 x154000 x154001 x155002).bind fun bt162 => (if bt162.2 = 0 then (if (x12 ++ ((⟨#[58]⟩ : ByteArray) ++ t161)).size + bt162.1.size ≤ 9223372036854775807 then (some (x161007, (x12 ++ ((⟨#[58]⟩ : ByteArray) ++ t161)) ++ bt162.1, 0)) else (none)) else (some (0, (⟨#[]⟩ : ByteArray), bt162.2)))) else (none)) else (none))) else ((filter_becomes.f k x161000 x161001 x161002 x161003 x161004 x161005 x161006 x161007 x154000 x154001 x155002).bind fun bt164 => (if bt164.2 = 0 then (if x12.size + bt164.1.size ≤ 9223372036854775807 then (some (x161007, x12 ++ bt164.1, 0)) else (none)) else (some (0, (⟨#[]⟩ : ByteArray), bt164.2))))
end
def filter_Away.f (k : Nat) (l0 : List (S26)) (a1_0 : Int) (a1_1 : ByteArray) (a2_0 : ByteArray) (a2_1 : ByteArray) (a2_2 : ByteArray) (l2_3 : List (S59)) (l2_4 : List (S59)) (a3 : Bool) : Option (Int × ByteArray × Int) := (filter_All.f k l0).bind fun t156 => (if t156 = true then ((path_Holds.f k a1_0 a1_1 a2_2).bind fun t157 => (filter_Away.j0 k l0 a3 (!t157) a1_0 a1_1 a2_0 a2_1 a2_2 l2_3 l2_4)) else (filter_Away.j0 k l0 a3 true a1_0 a1_1 a2_0 a2_1 a2_2 l2_3 l2_4))
theorem filter_Away.mono_l : ∀ k, (∀ y0 y1 y2 y3 y4 y5 y6 y7 y8 y9, LeO (filter_Away.j0 k y0 y1 y2 y3 y4 y5 y6 y7 y8 y9) (filter_Away.j0 (k + 1) y0 y1 y2 y3 y4 y5 y6 y7 y8 y9)) ∧ (∀ y0 y1 y2 y3 y4 y5 y6 y7 y8 y9 y10 y11 y12 y13 y14 y15 y16, LeO (filter_Away.j1 k y0 y1 y2 y3 y4 y5 y6 y7 y8 y9 y10 y11 y12 y13 y14 y15 y16) (filter_Away.j1 (k + 1) y0 y1 y2 y3 y4 y5 y6 y7 y8 y9 y10 y11 y12 y13 y14 y15 y16)) ∧ (∀ y0 y1 y2 y3 y4 y5 y6 y7 y8 y9 y10 y11 y12 y13 y14 y15 y16, LeO (filter_Away.j2 k y0 y1 y2 y3 y4 y5 y6 y7 y8 y9 y10 y11 y12 y13 y14 y15 y16) (filter_Away.j2 (k + 1) y0 y1 y2 y3 y4 y5 y6 y7 y8 y9 y10 y11 y12 y13 y14 y15 y16)) ∧ (∀ y0 y1 y2 y3 y4 y5 y6 y7 y8 y9 y10 y11 y12 y13 y14 y15 y16, LeO (filter_Away.j3 k y0 y1 y2 y3 y4 y5 y6 y7 y8 y9 y10 y11 y12 y13 y14 y15 y16) (filter_Away.j3 (k + 1) y0 y1 y2 y3 y4 y5 y6 y7 y8 y9 y10 y11 y12 y13 y14 y15 y16))
 | 0 => ⟨fun _ _ _ _ _ _ _ _ _ _ r h => by simp [filter_Away.j0] at h, fun _ _ _ _ _ _ _ _ _ _ _ _ _ _ _ _ _ r h => by simp [filter_Away.j1] at h, fun _ _ _ _ _ _ _ _ _ _ _ _ _ _ _ _ _ r h => by simp [filter_Away.j2] at h, fun _ _ _ _ _ _ _ _ _ _ _ _ _ _ _ _ _ r h => by simp [filter_Away.j3] at h⟩
 | k + 1 => by
  obtain ⟨ih0, ih1, ih2, ih3⟩ := filter_Away.mono_l k
  refine ⟨?_, ?_, ?_, ?_⟩
  ·intro y0 y1 y2 y3 y4 y5 y6 y7 y8 y9
   unfold filter_Away.j0
   repeat' first
   | (with_reducible exact ih0 _ _ _ _ _ _ _ _ _ _)
   | (with_reducible exact ih1 _ _ _ _ _ _ _ _ _ _ _ _ _ _ _ _ _)
   | (with_reducible exact ih2 _ _ _ _ _ _ _ _ _ _ _ _ _ _ _ _ _)
   | (with_reducible exact ih3 _ _ _ _ _ _ _ _ _ _ _ _ _ _ _ _ _)
   | (with_reducible exact filter_All.mono _ _)
   | (with_reducible exact filter_becomes.mono _ _ _ _ _ _ _ _ _ _ _ _)
   | (with_reducible exact path_Holds.mono _ _ _ _)
   | (with_reducible exact LeO.refl _)
   | (with_reducible exact LeO.none _)
   | (with_reducible refine LeO.ite ?_ ?_)
   | (with_reducible refine LeO.bind ?_ (fun _ => ?_))
   | exact ih0 _ _ _ _ _ _ _ _ _ _
   | exact ih1 _ _ _ _ _ _ _ _ _ _ _ _ _ _ _ _ _
   | exact ih2 _ _ _ _ _ _ _ _ _ _ _ _ _ _ _ _ _
   | exact ih3 _ _ _ _ _ _ _ _ _ _ _ _ _ _ _ _ _
   | exact filter_All.mono _ _
   | exact filter_becomes.mono _ _ _ _ _ _ _ _ _ _ _ _
   | exact path_Holds.mono _ _ _ _
   | exact LeO.none _
   | refine LeO.ite ?_ ?_
   | refine LeO.bind ?_ (fun _ => ?_)
  ·intro y0 y1 y2 y3 y4 y5 y6 y7 y8 y9 y10 y11 y12 y13 y14 y15 y16
   unfold filter_Away.j1
   repeat' first
   | (with_reducible exact ih0 _ _ _ _ _ _ _ _ _ _)
   | (with_reducible exact ih1 _ _ _ _ _ _ _ _ _ _ _ _ _ _ _ _ _)
   | (with_reducible exact ih2 _ _ _ _ _ _ _ _ _ _ _ _ _ _ _ _ _)
   | (with_reducible exact ih3 _ _ _ _ _ _ _ _ _ _ _ _ _ _ _ _ _)
   | (with_reducible exact filter_All.mono _ _)
   | (with_reducible exact filter_becomes.mono _ _ _ _ _ _ _ _ _ _ _ _)
   | (with_reducible exact path_Holds.mono _ _ _ _)
   | (with_reducible exact LeO.refl _)
   | (with_reducible exact LeO.none _)
   | (with_reducible refine LeO.ite ?_ ?_)
   | (with_reducible refine LeO.bind ?_ (fun _ => ?_))
   | exact ih0 _ _ _ _ _ _ _ _ _ _
   | exact ih1 _ _ _ _ _ _ _ _ _ _ _ _ _ _ _ _ _
   | exact ih2 _ _ _ _ _ _ _ _ _ _ _ _ _ _ _ _ _
   | exact ih3 _ _ _ _ _ _ _ _ _ _ _ _ _ _ _ _ _
   | exact filter_All.mono _ _
   | exact filter_becomes.mono _ _ _ _ _ _ _ _ _ _ _ _
   | exact path_Holds.mono _ _ _ _
   | exact LeO.none _
   | refine LeO.ite ?_ ?_
   | refine LeO.bind ?_ (fun _ => ?_)
  ·intro y0 y1 y2 y3 y4 y5 y6 y7 y8 y9 y10 y11 y12 y13 y14 y15 y16
   unfold filter_Away.j2
   repeat' first
   | (with_reducible exact ih0 _ _ _ _ _ _ _ _ _ _)
   | (with_reducible exact ih1 _ _ _ _ _ _ _ _ _ _ _ _ _ _ _ _ _)
   | (with_reducible exact ih2 _ _ _ _ _ _ _ _ _ _ _ _ _ _ _ _ _)
   | (with_reducible exact ih3 _ _ _ _ _ _ _ _ _ _ _ _ _ _ _ _ _)
   | (with_reducible exact filter_All.mono _ _)
   | (with_reducible exact filter_becomes.mono _ _ _ _ _ _ _ _ _ _ _ _)
   | (with_reducible exact path_Holds.mono _ _ _ _)
   | (with_reducible exact LeO.refl _)
   | (with_reducible exact LeO.none _)
   | (with_reducible refine LeO.ite ?_ ?_)
   | (with_reducible refine LeO.bind ?_ (fun _ => ?_))
   | exact ih0 _ _ _ _ _ _ _ _ _ _
   | exact ih1 _ _ _ _ _ _ _ _ _ _ _ _ _ _ _ _ _
   | exact ih2 _ _ _ _ _ _ _ _ _ _ _ _ _ _ _ _ _
   | exact ih3 _ _ _ _ _ _ _ _ _ _ _ _ _ _ _ _ _
   | exact filter_All.mono _ _
   | exact filter_becomes.mono _ _ _ _ _ _ _ _ _ _ _ _
   | exact path_Holds.mono _ _ _ _
   | exact LeO.none _
   | refine LeO.ite ?_ ?_
   | refine LeO.bind ?_ (fun _ => ?_)
  ·intro y0 y1 y2 y3 y4 y5 y6 y7 y8 y9 y10 y11 y12 y13 y14 y15 y16
   unfold filter_Away.j3
   repeat' first
   | (with_reducible exact ih0 _ _ _ _ _ _ _ _ _ _)
   | (with_reducible exact ih1 _ _ _ _ _ _ _ _ _ _ _ _ _ _ _ _ _)
   | (with_reducible exact ih2 _ _ _ _ _ _ _ _ _ _ _ _ _ _ _ _ _)
   | (with_reducible exact ih3 _ _ _ _ _ _ _ _ _ _ _ _ _ _ _ _ _)
   | (with_reducible exact filter_All.mono _ _)
   | (with_reducible exact filter_becomes.mono _ _ _ _ _ _ _ _ _ _ _ _)
   | (with_reducible exact path_Holds.mono _ _ _ _)
   | (with_reducible exact LeO.refl _)
   | (with_reducible exact LeO.none _)
   | (with_reducible refine LeO.ite ?_ ?_)
   | (with_reducible refine LeO.bind ?_ (fun _ => ?_))
   | exact ih0 _ _ _ _ _ _ _ _ _ _
   | exact ih1 _ _ _ _ _ _ _ _ _ _ _ _ _ _ _ _ _
   | exact ih2 _ _ _ _ _ _ _ _ _ _ _ _ _ _ _ _ _
   | exact ih3 _ _ _ _ _ _ _ _ _ _ _ _ _ _ _ _ _
   | exact filter_All.mono _ _
   | exact filter_becomes.mono _ _ _ _ _ _ _ _ _ _ _ _
   | exact path_Holds.mono _ _ _ _
   | exact LeO.none _
   | refine LeO.ite ?_ ?_
   | refine LeO.bind ?_ (fun _ => ?_)
theorem filter_Away.mono : ∀ a0 a1 a2 a3 a4 a5 a6 a7 a8 k, LeO (filter_Away.f k a0 a1 a2 a3 a4 a5 a6 a7 a8) (filter_Away.f (k + 1) a0 a1 a2 a3 a4 a5 a6 a7 a8) := by
 intro a0 a1 a2 a3 a4 a5 a6 a7 a8 k
 obtain ⟨ih0, ih1, ih2, ih3⟩ := filter_Away.mono_l k
 unfold filter_Away.f
 repeat' first
   | (with_reducible exact ih0 _ _ _ _ _ _ _ _ _ _)
   | (with_reducible exact ih1 _ _ _ _ _ _ _ _ _ _ _ _ _ _ _ _ _)
   | (with_reducible exact ih2 _ _ _ _ _ _ _ _ _ _ _ _ _ _ _ _ _)
   | (with_reducible exact ih3 _ _ _ _ _ _ _ _ _ _ _ _ _ _ _ _ _)
   | (with_reducible exact filter_All.mono _ _)
   | (with_reducible exact filter_becomes.mono _ _ _ _ _ _ _ _ _ _ _ _)
   | (with_reducible exact path_Holds.mono _ _ _ _)
   | (with_reducible exact LeO.refl _)
   | (with_reducible exact LeO.none _)
   | (with_reducible refine LeO.ite ?_ ?_)
   | (with_reducible refine LeO.bind ?_ (fun _ => ?_))
   | exact ih0 _ _ _ _ _ _ _ _ _ _
   | exact ih1 _ _ _ _ _ _ _ _ _ _ _ _ _ _ _ _ _
   | exact ih2 _ _ _ _ _ _ _ _ _ _ _ _ _ _ _ _ _
   | exact ih3 _ _ _ _ _ _ _ _ _ _ _ _ _ _ _ _ _
   | exact filter_All.mono _ _
   | exact filter_becomes.mono _ _ _ _ _ _ _ _ _ _ _ _
   | exact path_Holds.mono _ _ _ _
   | exact LeO.none _
   | refine LeO.ite ?_ ?_
   | refine LeO.bind ?_ (fun _ => ?_)
set_option maxHeartbeats 6000000 in
set_option maxRecDepth 100000 in
theorem filter_Away.calls (k : Nat) (A0 : Option Addr) (c0 : Nat) (l0 : List (S26)) (a1_0 : Int) (a1_1 : ByteArray) (a2_0 : ByteArray) (a2_1 : ByteArray) (a2_2 : ByteArray) (A2_3 : Option Addr) (c2_3 : Nat) (l2_3 : List (S59)) (A2_4 : Option Addr) (c2_4 : Nat) (l2_4 : List (S59)) (a3 : Bool) (r1 : Int) (r2 : ByteArray) (r3 : Int) (w : World) (hr0 : Kd.C k26 w A0 l0.length l0) (hc0 : l0.length ≤ c0) (hr2_3 : Kd.C k59 w A2_3 l2_3.length l2_3) (hc2_3 : l2_3.length ≤ c2_3) (hr2_4 : Kd.C k59 w A2_4 l2_4.length l2_4) (hc2_4 : l2_4.length ≤ c2_4) (hG : MaxL w) (h : filter_Away.f k l0 a1_0 a1_1 a2_0 a2_1 a2_2 l2_3 l2_4 a3 = some (r1, r2, r3)) :
  Calls Tryz.prog 19 #[.slice A0 l0.length c0, .agg #[.int .i64 a1_0, .string a1_1], .agg #[.string a2_0, .string a2_1, .string a2_2, .slice A2_3 l2_3.length c2_3, .slice A2_4 l2_4.length c2_4], .bool a3] w fun e w' => e = .returned (.tuple #[.agg #[.int .i64 r1, .string r2], .int .i64 r3]) ∧ Below w.heap.size w w' := by
 have HGL := am_ hG
 clear hG
 have hu30 := Tryz.underlying30
 have hu33 := Tryz.underlying33
 have hu44 := Tryz.underlying44
 have hu26 := Tryz.underlying26
 have HR0 := Aside0.mk hr0
 have HC0 := Aside0.mk hc0
 clear hr0 hc0
 have HR2_3 := Aside0.mk hr2_3
 have HC2_3 := Aside0.mk hc2_3
 clear hr2_3 hc2_3
 have HR2_4 := Aside0.mk hr2_4
 have HC2_4 := Aside0.mk hc2_4
 clear hr2_4 hc2_4
 have HB := am_ (Below.refl w.heap.size w)
 have H : ((filter_All.f k l0).bind fun t156 => (if t156 = true then ((path_Holds.f k a1_0 a1_1 a2_2).bind fun t157 => (filter_Away.j0 k l0 a3 (!t157) a1_0 a1_1 a2_0 a2_1 a2_2 l2_3 l2_4)) else (filter_Away.j0 k l0 a3 true a1_0 a1_1 a2_0 a2_1 a2_2 l2_3 l2_4))) = some (r1, r2, r3) := h
 clear h
 have HC5 := Aside0.mk H
 clear H
 go_enter Tryz.func19, Tryz.ntmps19
 go_upto_region 1 with (first | ((with_reducible refine gate_dst (N := 5) rfl ?_); refine box_event ?hg (N := 5) ?hd (cs := #[.int .i64 a1_0, .string a1_1]) (t := 30) ?hr ?_; (case hd => rfl); (case hg => rfl); (case hr => first | (go_simp; done) | (go_simp; rfl)); intro gb153 hg w6 hbox hb; have n0_ := am_ (below_step (bel_ HB.out) hb); have n1_ := am_ (hbox); have n2_ := am_ ((by rw [hg]; exact (below_size (bel_ HB.out)) : w.heap.size ≤ gb153)); have n3_ := am_ ((by rw [hg]; exact (below_size (bel_ HB.out)) : w.heap.size ≤ gb153)); clear HB; have HB := n0_; have BK153 := n1_; have GW153 := n2_; have GE153 := n3_; clear n0_ n1_ n2_ n3_ hb hbox hg) | ((with_reducible refine gate_dst (N := 6) rfl ?_); refine box_event ?hg (N := 6) ?hd (cs := #[.string a2_0, .string a2_1, .string a2_2, .slice A2_3 l2_3.length c2_3, .slice A2_4 l2_4.length c2_4]) (t := 33) ?hr ?_; (case hd => rfl); (case hg => rfl); (case hr => first | (go_simp; done) | (go_simp; rfl)); intro gb154 hg w7 hbox hb; have n0_ := am_ (blk_below (g := gb153) (o := .cells #[.int .i64 a1_0, .string a1_1] 30 (0, 0)) (blk_ BK153.out) hb); have n1_ := am_ (below_step (bel_ HB.out) hb); have n2_ := am_ (hbox); have n3_ := am_ ((by rw [hg]; exact (below_size (bel_ HB.out)) : w.heap.size ≤ gb154)); have n4_ := am_ ((by rw [hg]; exact (below_size (bel_ HB.out)) : w.heap.size ≤ gb154)); have n5_ := am_ ((by rw [hg]; exact Nat.ne_of_lt (blk_lt (g := gb153) (o := .cells #[.int .i64 a1_0, .string a1_1] 30 (0, 0)) (blk_ BK153.out)) : gb153 ≠ gb154)); have n6_ := am_ ((by rw [hg]; exact Nat.ne_of_gt (blk_lt (g := gb153) (o := .cells #[.int .i64 a1_0, .string a1_1] 30 (0, 0)) (blk_ BK153.out)) : gb154 ≠ gb153)); clear BK153 HB; have BK153 := n0_; have HB := n1_; have BK154 := n2_; have GW154 := n3_; have GE154 := n4_; have NB153_154 := n5_; have NB154_153 := n6_; clear n0_ n1_ n2_ n3_ n4_ n5_ n6_ hb hbox hg) | ((with_reducible refine gate_dst (N := 8) rfl ?_); refine box_event ?hg (N := 8) ?hd (cs := #[.int .i64 0, .string (⟨#[]⟩ : ByteArray)]) (t := 44) ?hr ?_; (case hd => rfl); (case hg => rfl); (case hr => first | (go_simp; done) | (go_simp; rfl)); intro gb155 hg w8 hbox hb; have n0_ := am_ (blk_below (g := gb153) (o := .cells #[.int .i64 a1_0, .string a1_1] 30 (0, 0)) (blk_ BK153.out) hb); have n1_ := am_ (blk_below (g := gb154) (o := .cells #[.string a2_0, .string a2_1, .string a2_2, .slice A2_3 l2_3.length c2_3, .slice A2_4 l2_4.length c2_4] 33 (0, 0)) (blk_ BK154.out) hb); have n2_ := am_ (below_step (bel_ HB.out) hb); have n3_ := am_ (hbox); have n4_ := am_ ((by rw [hg]; exact (below_size (bel_ HB.out)) : w.heap.size ≤ gb155)); have n5_ := am_ ((by rw [hg]; exact (below_size (bel_ HB.out)) : w.heap.size ≤ gb155)); have n6_ := am_ ((by rw [hg]; exact Nat.ne_of_lt (blk_lt (g := gb153) (o := .cells #[.int .i64 a1_0, .string a1_1] 30 (0, 0)) (blk_ BK153.out)) : gb153 ≠ gb155)); have n7_ := am_ ((by rw [hg]; exact Nat.ne_of_gt (blk_lt (g := gb153) (o := .cells #[.int .i64 a1_0, .string a1_1] 30 (0, 0)) (blk_ BK153.out)) : gb155 ≠ gb153)); have n8_ := am_ ((by rw [hg]; exact Nat.ne_of_lt (blk_lt (g := gb154) (o := .cells #[.string a2_0, .string a2_1, .string a2_2, .slice A2_3 l2_3.length c2_3, .slice A2_4 l2_4.length c2_4] 33 (0, 0)) (blk_ BK154.out)) : gb154 ≠ gb155)); have n9_ := am_ ((by rw [hg]; exact Nat.ne_of_gt (blk_lt (g := gb154) (o := .cells #[.string a2_0, .string a2_1, .string a2_2, .slice A2_3 l2_3.length c2_3, .slice A2_4 l2_4.length c2_4] 33 (0, 0)) (blk_ BK154.out)) : gb155 ≠ gb154)); clear BK153 BK154 HB; have BK153 := n0_; have BK154 := n1_; have HB := n2_; have BK155 := n3_; have GW155 := n4_; have GE155 := n5_; have NB153_155 := n6_; have NB155_153 := n7_; have NB154_155 := n8_; have NB155_154 := n9_; clear n0_ n1_ n2_ n3_ n4_ n5_ n6_ n7_ n8_ n9_ hb hbox hg))
 (try simp only [Act.put, List.setIfInBounds_toArray, List.set_cons_zero, List.set_cons_succ])
 go_cut [25] (fun v25 wc => ∃ (kq : Nat) (x25_4 : Bool), v25 = .bool x25_4 ∧ Aside0 (filter_Away.j0 kq l0 a3 x25_4 a1_0 a1_1 a2_0 a2_1 a2_2 l2_3 l2_4 = some (r1, r2, r3)) ∧ Aside0 (kq ≤ k) ∧ Aside0 (wc.heap[gb153]? = some (.cells #[.int .i64 a1_0, .string a1_1] 30 (0, 0))) ∧ Aside0 (wc.heap[gb154]? = some (.cells #[.string a2_0, .string a2_1, .string a2_2, (.slice A2_3 l2_3.length c2_3), (.slice A2_4 l2_4.length c2_4)] 33 (0, 0))) ∧ Aside0 (wc.heap[gb155]? = some (.cells #[.int .i64 0, .string (⟨#[]⟩ : ByteArray)] 44 (0, 0))) ∧ Aside0 (Below w.heap.size w wc))
 case first =>
  have H := HC5.out
  clear HC5
  replace H := Option.bind_eq_some_iff.mp H
  obtain ⟨t156, A90, H⟩ := H
  replace H : (if t156 = true then ((path_Holds.f k a1_0 a1_1 a2_2).bind fun t157 => (filter_Away.j0 k l0 a3 (!t157) a1_0 a1_1 a2_0 a2_1 a2_2 l2_3 l2_4)) else (filter_Away.j0 k l0 a3 true a1_0 a1_1 a2_0 a2_1 a2_2 l2_3 l2_4)) = some (r1, r2, r3) := H
  have A9 := Aside0.mk A90
  clear A90
  by_cases c10 : t156 = true
  ·subst c10
   have H1 : ((path_Holds.f k a1_0 a1_1 a2_2).bind fun t157 => (filter_Away.j0 k l0 a3 (!t157) a1_0 a1_1 a2_0 a2_1 a2_2 l2_3 l2_4)) = some (r1, r2, r3) := by rw [if_pos rfl] at H; exact H
   clear H
   have H := H1
   clear H1
   replace H := Option.bind_eq_some_iff.mp H
   obtain ⟨t157, A110, H⟩ := H
   replace H : (filter_Away.j0 k l0 a3 (!t157) a1_0 a1_1 a2_0 a2_1 a2_2 l2_3 l2_4) = some (r1, r2, r3) := H
   have A11 := Aside0.mk A110
   clear A110
   have H' := Aside0.mk H
   clear H
   go_wp2_with (first | ((with_reducible refine gate_callee (f := 12) rfl ?_); refine goesL_ (some 17) rfl rfl Tryz.func12 kr_ rfl #[.slice A0 l0.length c0] rfl rl_ ?_; (with_reducible refine (filter_All.calls k _ _ l0 true _ ?side1 ?side2 A9.out).mono ?_); (case side1 => exact C_ (Kd.C_below HR0.out HB.out)); (case side2 => exact HC0.out); rintro e w12 ⟨rfl, hb⟩; refine ⟨_, rfl, ?_⟩; have n0_ := am_ (blk_below (g := gb153) (o := .cells #[.int .i64 a1_0, .string a1_1] 30 (0, 0)) (blk_ BK153.out) hb); have n1_ := am_ (blk_below (g := gb154) (o := .cells #[.string a2_0, .string a2_1, .string a2_2, .slice A2_3 l2_3.length c2_3, .slice A2_4 l2_4.length c2_4] 33 (0, 0)) (blk_ BK154.out) hb); have n2_ := am_ (blk_below (g := gb155) (o := .cells #[.int .i64 0, .string (⟨#[]⟩ : ByteArray)] 44 (0, 0)) (blk_ BK155.out) hb); have n3_ := am_ (below_step (bel_ HB.out) hb); clear BK153 BK154 BK155 HB; have BK153 := n0_; have BK154 := n1_; have BK155 := n2_; have HB := n3_; clear n0_ n1_ n2_ n3_; (try clear hb); (try clear hb2); (try clear hk); (try clear hi); have hnb13 := NB153_154.out; have hnc13 := NB154_153.out; have hnb14 := NB153_155.out; have hnc14 := NB155_153.out; have hcz15_0 : w12.cell? ⟨gb153, 0, none⟩ = some (.int .i64 a1_0) := (blk_cell BK153.out 0).trans rfl; have hcz15_1 : w12.cell? ⟨gb153, 1, none⟩ = some (.string a1_1) := (blk_cell BK153.out 1).trans rfl; have hfz15_0 := blk_frozen BK153.out 0; have hfz15_1 := blk_frozen BK153.out 1; have hnb16 := NB154_155.out; have hnc16 := NB155_154.out; have hcz17_0 : w12.cell? ⟨gb154, 0, none⟩ = some (.string a2_0) := (blk_cell BK154.out 0).trans rfl; have hcz17_1 : w12.cell? ⟨gb154, 1, none⟩ = some (.string a2_1) := (blk_cell BK154.out 1).trans rfl; have hcz17_2 : w12.cell? ⟨gb154, 2, none⟩ = some (.string a2_2) := (blk_cell BK154.out 2).trans rfl; have hcz17_3 : w12.cell? ⟨gb154, 3, none⟩ = some (.slice A2_3 l2_3.length c2_3) := (blk_cell BK154.out 3).trans rfl; have hcz17_4 : w12.cell? ⟨gb154, 4, none⟩ = some (.slice A2_4 l2_4.length c2_4) := (blk_cell BK154.out 4).trans rfl; have hfz17_0 := blk_frozen BK154.out 0; have hfz17_1 := blk_frozen BK154.out 1; have hfz17_2 := blk_frozen BK154.out 2; have hfz17_3 := blk_frozen BK154.out 3; have hfz17_4 := blk_frozen BK154.out 4) | (go_at_call 39; (with_reducible refine (path_Holds.calls k a1_0 a1_1 a2_2 t157 _ A11.out).mono ?_); rintro e w18 ⟨rfl, hb⟩; have n0_ := am_ (blk_below (g := gb153) (o := .cells #[.int .i64 a1_0, .string a1_1] 30 (0, 0)) (blk_ BK153.out) hb); have n1_ := am_ (blk_below (g := gb154) (o := .cells #[.string a2_0, .string a2_1, .string a2_2, .slice A2_3 l2_3.length c2_3, .slice A2_4 l2_4.length c2_4] 33 (0, 0)) (blk_ BK154.out) hb); have n2_ := am_ (blk_below (g := gb155) (o := .cells #[.int .i64 0, .string (⟨#[]⟩ : ByteArray)] 44 (0, 0)) (blk_ BK155.out) hb); have n3_ := am_ (below_step (bel_ HB.out) hb); clear BK153 BK154 BK155 HB; have BK153 := n0_; have BK154 := n1_; have BK155 := n2_; have HB := n3_; clear n0_ n1_ n2_ n3_; (try clear hb); (try clear hb2); (try clear hk); (try clear hi)))
   go_meet
   case rel => exact ⟨_, (!t157), sd_, H', ⟨by first | omega | exact Nat.le_refl _⟩, ⟨by (with_reducible repeat (first | refine blk_drewN ?_ _ | refine blk_drew ?_ | refine blk_alloc ?_ _)); exact BK153.out⟩, ⟨by (with_reducible repeat (first | refine blk_drewN ?_ _ | refine blk_drew ?_ | refine blk_alloc ?_ _)); exact BK154.out⟩, ⟨by (with_reducible repeat (first | refine blk_drewN ?_ _ | refine blk_drew ?_ | refine blk_alloc ?_ _)); exact BK155.out⟩, ⟨bel_ HB.out⟩⟩
  ·replace c10 := Bool.eq_false_iff.mpr c10
   subst c10
   have H1 : (filter_Away.j0 k l0 a3 true a1_0 a1_1 a2_0 a2_1 a2_2 l2_3 l2_4) = some (r1, r2, r3) := by rw [if_neg (show ¬ (false = true) by decide)] at H; exact H
   clear H
   have H := H1
   clear H1
   have H' := Aside0.mk H
   clear H
   go_wp2_with (first | ((with_reducible refine gate_callee (f := 12) rfl ?_); refine goesL_ (some 17) rfl rfl Tryz.func12 kr_ rfl #[.slice A0 l0.length c0] rfl rl_ ?_; (with_reducible refine (filter_All.calls k _ _ l0 false _ ?side1 ?side2 A9.out).mono ?_); (case side1 => exact C_ (Kd.C_below HR0.out HB.out)); (case side2 => exact HC0.out); rintro e w19 ⟨rfl, hb⟩; refine ⟨_, rfl, ?_⟩; have n0_ := am_ (blk_below (g := gb153) (o := .cells #[.int .i64 a1_0, .string a1_1] 30 (0, 0)) (blk_ BK153.out) hb); have n1_ := am_ (blk_below (g := gb154) (o := .cells #[.string a2_0, .string a2_1, .string a2_2, .slice A2_3 l2_3.length c2_3, .slice A2_4 l2_4.length c2_4] 33 (0, 0)) (blk_ BK154.out) hb); have n2_ := am_ (blk_below (g := gb155) (o := .cells #[.int .i64 0, .string (⟨#[]⟩ : ByteArray)] 44 (0, 0)) (blk_ BK155.out) hb); have n3_ := am_ (below_step (bel_ HB.out) hb); clear BK153 BK154 BK155 HB; have BK153 := n0_; have BK154 := n1_; have BK155 := n2_; have HB := n3_; clear n0_ n1_ n2_ n3_; (try clear hb); (try clear hb2); (try clear hk); (try clear hi)))
   go_meet
   case rel => exact ⟨_, (true), sd_, H', ⟨by first | omega | exact Nat.le_refl _⟩, ⟨by (with_reducible repeat (first | refine blk_drewN ?_ _ | refine blk_drew ?_ | refine blk_alloc ?_ _)); exact BK153.out⟩, ⟨by (with_reducible repeat (first | refine blk_drewN ?_ _ | refine blk_drew ?_ | refine blk_alloc ?_ _)); exact BK154.out⟩, ⟨by (with_reducible repeat (first | refine blk_drewN ?_ _ | refine blk_drew ?_ | refine blk_alloc ?_ _)); exact BK155.out⟩, ⟨bel_ HB.out⟩⟩
 case rest =>
  clear HC5
  try clear c1
  try clear c2
  try clear p2
  try clear c10
  try clear c12
  try clear c13
  try clear c14
  try clear c16
  try clear c19
  try clear hcz15_0
  try clear hcz15_1
  try clear hcz17_0
  try clear hcz17_1
  try clear hcz17_2
  try clear hcz17_3
  try clear hcz17_4
  try clear hfz15_0
  try clear hfz15_1
  try clear hfz17_0
  try clear hfz17_1
  try clear hfz17_2
  try clear hfz17_3
  try clear hfz17_4
  obtain ⟨kq, x25_4, rfl, HA, HJ4, BK153, BK154, BK155, HB⟩ := hcut
  cases kq with
  | zero => exact absurd HA.out (by simp [filter_Away.j0])
  | succ kj4 =>
   have H := HA.out
   clear HA
   simp only [filter_Away.j0] at H
   by_cases c20 : x25_4 = true
   ·subst c20
    have H1 : (some (0, (⟨#[]⟩ : ByteArray), 1)) = some (r1, r2, r3) := by rw [if_pos rfl] at H; exact H
    clear H
    have H := H1
    clear H1
    simp only [Option.some.injEq, Prod.mk.injEq] at H
    obtain ⟨rfl, rfl, rfl⟩ := H
    have hnb21 := NB155_153.out
    have hnc21 := NB153_155.out
    have hnb22 := NB155_154.out
    have hnc22 := NB154_155.out
    have hcz23_0 : wc.cell? ⟨gb155, 0, none⟩ = some (.int .i64 0) := (blk_cell BK155.out 0).trans rfl
    have hcz23_1 : wc.cell? ⟨gb155, 1, none⟩ = some (.string (⟨#[]⟩ : ByteArray)) := (blk_cell BK155.out 1).trans rfl
    have hfz23_0 := blk_frozen BK155.out 0
    have hfz23_1 := blk_frozen BK155.out 1
    go_wp2
    refine bodyPost_ret (results_ct rfl _ _ gb155 44 #[.int .i64 0, .string (⟨#[]⟩ : ByteArray)] (0, 0) _ rfl (by (with_reducible repeat (first | refine blk_drewN ?_ _ | refine blk_drew ?_ | refine blk_alloc ?_ _)); refine blk_put (cs := #[.int .i64 0, .string (⟨#[]⟩ : ByteArray)]) ?_ 1 _ rfl; (with_reducible repeat (first | refine blk_drewN ?_ _ | refine blk_drew ?_ | refine blk_alloc ?_ _)); refine blk_put (cs := #[.int .i64 0, .string (⟨#[]⟩ : ByteArray)]) ?_ 0 _ rfl; (with_reducible repeat (first | refine blk_drewN ?_ _ | refine blk_drew ?_ | refine blk_alloc ?_ _)); exact BK155.out) Tryz.underlying44 rfl kr_) rfl ?_
    exact ⟨fi_, bel_ HB.out⟩
   ·replace c20 := Bool.eq_false_iff.mpr c20
    subst c20
    have H1 : ((slices_IndexFunc_with_filter_Away_1.f l0).bind fun t158 => (if t158 < 0 then (some (0, (⟨#[]⟩ : ByteArray), 3)) else (if 0 ≤ t158 then (if t158 < (l0.length : Int) then (if a3 = true then (filter_Away.j1 kj4 (⟨#[104, 116, 116, 112, 115, 58, 47, 47]⟩ : ByteArray) 443 a1_0 a1_1 a2_0 a2_1 a2_2 l2_3 l2_4 ((rd_T26 l0 t158).f0) ((rd_T26 l0 t158).f1) ((rd_T26 l0 t158).f2) ((rd_T26 l0 t158).f3) ((rd_T26 l0 t158).f4) ((rd_T26 l0 t158).f5) ((rd_T26 l0 t158).f6) ((rd_T26 l0 t158).f7)) else (filter_Away.j1 kj4 (⟨#[104, 116, 116, 112, 58, 47, 47]⟩ : ByteArray) 80 a1_0 a1_1 a2_0 a2_1 a2_2 l2_3 l2_4 ((rd_T26 l0 t158).f0) ((rd_T26 l0 t158).f1) ((rd_T26 l0 t158).f2) ((rd_T26 l0 t158).f3) ((rd_T26 l0 t158).f4) ((rd_T26 l0 t158).f5) ((rd_T26 l0 t158).f6) ((rd_T26 l0 t158).f7))) else (none)) else (none)))) = some (r1, r2, r3) := by rw [if_neg (show ¬ (false = true) by decide)] at H; exact H
    clear H
    have H := H1
    clear H1
    replace H := Option.bind_eq_some_iff.mp H
    obtain ⟨t158, A240, H⟩ := H
    replace H : (if t158 < 0 then (some (0, (⟨#[]⟩ : ByteArray), 3)) else (if 0 ≤ t158 then (if t158 < (l0.length : Int) then (if a3 = true then (filter_Away.j1 kj4 (⟨#[104, 116, 116, 112, 115, 58, 47, 47]⟩ : ByteArray) 443 a1_0 a1_1 a2_0 a2_1 a2_2 l2_3 l2_4 ((rd_T26 l0 t158).f0) ((rd_T26 l0 t158).f1) ((rd_T26 l0 t158).f2) ((rd_T26 l0 t158).f3) ((rd_T26 l0 t158).f4) ((rd_T26 l0 t158).f5) ((rd_T26 l0 t158).f6) ((rd_T26 l0 t158).f7)) else (filter_Away.j1 kj4 (⟨#[104, 116, 116, 112, 58, 47, 47]⟩ : ByteArray) 80 a1_0 a1_1 a2_0 a2_1 a2_2 l2_3 l2_4 ((rd_T26 l0 t158).f0) ((rd_T26 l0 t158).f1) ((rd_T26 l0 t158).f2) ((rd_T26 l0 t158).f3) ((rd_T26 l0 t158).f4) ((rd_T26 l0 t158).f5) ((rd_T26 l0 t158).f6) ((rd_T26 l0 t158).f7))) else (none)) else (none))) = some (r1, r2, r3) := H
    have A24 := Aside0.mk A240
    clear A240
    by_cases c25 : t158 < 0
    ·rw [if_pos c25] at H
     have c25b0 : decide (t158 < 0) = true := decide_eq_true c25
     clear c25
     simp only [Option.some.injEq, Prod.mk.injEq] at H
     obtain ⟨rfl, rfl, rfl⟩ := H
     go_wp2_with (first | ((with_reducible refine gate_callee (f := 45) rfl ?_); refine goesL_ (some 28) rfl rfl Tryz.func45 kr_ rfl #[.slice A0 l0.length c0, .func (.func 46) #[] #[]] rfl rl_ ?_; (with_reducible refine (slices_IndexFunc_with_filter_Away_1.calls _ _ l0 t158 _ ?side1 ?side2 A24.out).mono ?_); (case side1 => exact C_ (Kd.C_below HR0.out HB.out)); (case side2 => exact HC0.out); rintro e w26 ⟨rfl, hb⟩; refine ⟨_, rfl, ?_⟩; have n0_ := am_ (blk_below (g := gb153) (o := .cells #[.int .i64 a1_0, .string a1_1] 30 (0, 0)) (blk_ BK153.out) hb); have n1_ := am_ (blk_below (g := gb154) (o := .cells #[.string a2_0, .string a2_1, .string a2_2, .slice A2_3 l2_3.length c2_3, .slice A2_4 l2_4.length c2_4] 33 (0, 0)) (blk_ BK154.out) hb); have n2_ := am_ (blk_below (g := gb155) (o := .cells #[.int .i64 0, .string (⟨#[]⟩ : ByteArray)] 44 (0, 0)) (blk_ BK155.out) hb); have n3_ := am_ (below_step (bel_ HB.out) hb); clear BK153 BK154 BK155 HB; have BK153 := n0_; have BK154 := n1_; have BK155 := n2_; have HB := n3_; clear n0_ n1_ n2_ n3_; (try clear hb); (try clear hb2); (try clear hk); (try clear hi); have hnb27 := NB155_153.out; have hnc27 := NB153_155.out; have hnb28 := NB155_154.out; have hnc28 := NB154_155.out; have hcz29_0 : w26.cell? ⟨gb155, 0, none⟩ = some (.int .i64 0) := (blk_cell BK155.out 0).trans rfl; have hcz29_1 : w26.cell? ⟨gb155, 1, none⟩ = some (.string (⟨#[]⟩ : ByteArray)) := (blk_cell BK155.out 1).trans rfl; have hfz29_0 := blk_frozen BK155.out 0; have hfz29_1 := blk_frozen BK155.out 1))
     refine bodyPost_ret (results_ct rfl _ _ gb155 44 #[.int .i64 0, .string (⟨#[]⟩ : ByteArray)] (0, 0) _ rfl (by (with_reducible repeat (first | refine blk_drewN ?_ _ | refine blk_drew ?_ | refine blk_alloc ?_ _)); refine blk_put (cs := #[.int .i64 0, .string (⟨#[]⟩ : ByteArray)]) ?_ 1 _ rfl; (with_reducible repeat (first | refine blk_drewN ?_ _ | refine blk_drew ?_ | refine blk_alloc ?_ _)); refine blk_put (cs := #[.int .i64 0, .string (⟨#[]⟩ : ByteArray)]) ?_ 0 _ rfl; (with_reducible repeat (first | refine blk_drewN ?_ _ | refine blk_drew ?_ | refine blk_alloc ?_ _)); exact BK155.out) Tryz.underlying44 rfl kr_) rfl ?_
     exact ⟨fi_, bel_ HB.out⟩
    ·rw [if_neg c25] at H
     have c25b0 : decide (t158 < 0) = false := decide_eq_false c25
     clear c25
     by_cases c30 : 0 ≤ t158
     ·rw [if_pos c30] at H
      have c30b0 : decide (0 ≤ t158) = true := decide_eq_true c30
      clear c30
      by_cases c31 : t158 < (l0.length : Int)
      ·rw [if_pos c31] at H
       have c31b0 : decide (t158 < (l0.length : Int)) = true := decide_eq_true c31
       clear c31
       have HC32 := Aside0.mk H
       clear H
       go_upto_if 36 with (first | ((with_reducible refine gate_callee (f := 45) rfl ?_); refine goesL_ (some 28) rfl rfl Tryz.func45 kr_ rfl #[.slice A0 l0.length c0, .func (.func 46) #[] #[]] rfl rl_ ?_; (with_reducible refine (slices_IndexFunc_with_filter_Away_1.calls _ _ l0 t158 _ ?side1 ?side2 A24.out).mono ?_); (case side1 => exact C_ (Kd.C_below HR0.out HB.out)); (case side2 => exact HC0.out); rintro e w33 ⟨rfl, hb⟩; refine ⟨_, rfl, ?_⟩; have n0_ := am_ (blk_below (g := gb153) (o := .cells #[.int .i64 a1_0, .string a1_1] 30 (0, 0)) (blk_ BK153.out) hb); have n1_ := am_ (blk_below (g := gb154) (o := .cells #[.string a2_0, .string a2_1, .string a2_2, .slice A2_3 l2_3.length c2_3, .slice A2_4 l2_4.length c2_4] 33 (0, 0)) (blk_ BK154.out) hb); have n2_ := am_ (blk_below (g := gb155) (o := .cells #[.int .i64 0, .string (⟨#[]⟩ : ByteArray)] 44 (0, 0)) (blk_ BK155.out) hb); have n3_ := am_ (below_step (bel_ HB.out) hb); clear BK153 BK154 BK155 HB; have BK153 := n0_; have BK154 := n1_; have BK155 := n2_; have HB := n3_; clear n0_ n1_ n2_ n3_; (try clear hb); (try clear hb2); (try clear hk); (try clear hi); have p159 : 0 ≤ (t158 : Int) := of_decide_eq_true as_; have q159 : t158 < (l0.length : Int) := of_decide_eq_true as_; obtain ⟨ad159, e159, hx159_0, hx159_1, hx159_2, hx159_3, hx159_4, hx159_5, hx159_6, hx159_7⟩ := at_T26 HR0.out t158 p159 q159; cases e159; replace hx159_0 := (HB.out.cell (World.block_lt_of_cell? w _ hx159_0)).trans hx159_0; replace hx159_1 := (HB.out.cell (World.block_lt_of_cell? w _ hx159_1)).trans hx159_1; replace hx159_2 := (HB.out.cell (World.block_lt_of_cell? w _ hx159_2)).trans hx159_2; replace hx159_3 := (HB.out.cell (World.block_lt_of_cell? w _ hx159_3)).trans hx159_3; replace hx159_4 := (HB.out.cell (World.block_lt_of_cell? w _ hx159_4)).trans hx159_4; replace hx159_5 := (HB.out.cell (World.block_lt_of_cell? w _ hx159_5)).trans hx159_5; replace hx159_6 := (HB.out.cell (World.block_lt_of_cell? w _ hx159_6)).trans hx159_6; replace hx159_7 := (HB.out.cell (World.block_lt_of_cell? w _ hx159_7)).trans hx159_7; replace p159 := eq_true p159; replace q159 := eq_true q159) | ((with_reducible refine gate_dst (N := 11) rfl ?_); refine box_event ?hg (N := 11) ?hd (cs := #[.int .i64 0, .string (⟨#[]⟩ : ByteArray), .string (⟨#[]⟩ : ByteArray), .string (⟨#[]⟩ : ByteArray), .int .i64 0, .string (⟨#[]⟩ : ByteArray), .bool false, .int .i64 0]) (t := 26) ?hr ?_; (case hd => rfl); (case hg => rfl); (case hr => first | (go_simp; done) | (go_simp; rfl)); intro gb160 hg w34 hbox hb; have n0_ := am_ (blk_below (g := gb153) (o := .cells #[.int .i64 a1_0, .string a1_1] 30 (0, 0)) (blk_ BK153.out) hb); have n1_ := am_ (blk_below (g := gb154) (o := .cells #[.string a2_0, .string a2_1, .string a2_2, .slice A2_3 l2_3.length c2_3, .slice A2_4 l2_4.length c2_4] 33 (0, 0)) (blk_ BK154.out) hb); have n2_ := am_ (blk_below (g := gb155) (o := .cells #[.int .i64 0, .string (⟨#[]⟩ : ByteArray)] 44 (0, 0)) (blk_ BK155.out) hb); have n3_ := am_ (below_step (bel_ HB.out) hb); have n4_ := am_ (hbox); have n5_ := am_ ((by rw [hg]; exact (below_size (bel_ HB.out)) : w.heap.size ≤ gb160)); have n6_ := am_ ((by rw [hg]; exact (below_size (bel_ HB.out)) : w.heap.size ≤ gb160)); have n7_ := am_ ((by rw [hg]; exact Nat.ne_of_lt (blk_lt (g := gb153) (o := .cells #[.int .i64 a1_0, .string a1_1] 30 (0, 0)) (blk_ BK153.out)) : gb153 ≠ gb160)); have n8_ := am_ ((by rw [hg]; exact Nat.ne_of_gt (blk_lt (g := gb153) (o := .cells #[.int .i64 a1_0, .string a1_1] 30 (0, 0)) (blk_ BK153.out)) : gb160 ≠ gb153)); have n9_ := am_ ((by rw [hg]; exact Nat.ne_of_lt (blk_lt (g := gb154) (o := .cells #[.string a2_0, .string a2_1, .string a2_2, .slice A2_3 l2_3.length c2_3, .slice A2_4 l2_4.length c2_4] 33 (0, 0)) (blk_ BK154.out)) : gb154 ≠ gb160)); have n10_ := am_ ((by rw [hg]; exact Nat.ne_of_gt (blk_lt (g := gb154) (o := .cells #[.string a2_0, .string a2_1, .string a2_2, .slice A2_3 l2_3.length c2_3, .slice A2_4 l2_4.length c2_4] 33 (0, 0)) (blk_ BK154.out)) : gb160 ≠ gb154)); have n11_ := am_ ((by rw [hg]; exact Nat.ne_of_lt (blk_lt (g := gb155) (o := .cells #[.int .i64 0, .string (⟨#[]⟩ : ByteArray)] 44 (0, 0)) (blk_ BK155.out)) : gb155 ≠ gb160)); have n12_ := am_ ((by rw [hg]; exact Nat.ne_of_gt (blk_lt (g := gb155) (o := .cells #[.int .i64 0, .string (⟨#[]⟩ : ByteArray)] 44 (0, 0)) (blk_ BK155.out)) : gb160 ≠ gb155)); clear BK153 BK154 BK155 HB; have BK153 := n0_; have BK154 := n1_; have BK155 := n2_; have HB := n3_; have BK160 := n4_; have GW160 := n5_; have GE160 := n6_; have NB153_160 := n7_; have NB160_153 := n8_; have NB154_160 := n9_; have NB160_154 := n10_; have NB155_160 := n11_; have NB160_155 := n12_; clear n0_ n1_ n2_ n3_ n4_ n5_ n6_ n7_ n8_ n9_ n10_ n11_ n12_ hb hbox hg; have hnb35 := NB160_153.out; have hnc35 := NB153_160.out; have hnb36 := NB160_154.out; have hnc36 := NB154_160.out; have hnb37 := NB160_155.out; have hnc37 := NB155_160.out; have hcz38_0 : w34.cell? ⟨gb160, 0, none⟩ = some (.int .i64 0) := (blk_cell BK160.out 0).trans rfl; have hcz38_1 : w34.cell? ⟨gb160, 1, none⟩ = some (.string (⟨#[]⟩ : ByteArray)) := (blk_cell BK160.out 1).trans rfl; have hcz38_2 : w34.cell? ⟨gb160, 2, none⟩ = some (.string (⟨#[]⟩ : ByteArray)) := (blk_cell BK160.out 2).trans rfl; have hcz38_3 : w34.cell? ⟨gb160, 3, none⟩ = some (.string (⟨#[]⟩ : ByteArray)) := (blk_cell BK160.out 3).trans rfl; have hcz38_4 : w34.cell? ⟨gb160, 4, none⟩ = some (.int .i64 0) := (blk_cell BK160.out 4).trans rfl; have hcz38_5 : w34.cell? ⟨gb160, 5, none⟩ = some (.string (⟨#[]⟩ : ByteArray)) := (blk_cell BK160.out 5).trans rfl; have hcz38_6 : w34.cell? ⟨gb160, 6, none⟩ = some (.bool false) := (blk_cell BK160.out 6).trans rfl; have hcz38_7 : w34.cell? ⟨gb160, 7, none⟩ = some (.int .i64 0) := (blk_cell BK160.out 7).trans rfl; have hfz38_0 := blk_frozen BK160.out 0; have hfz38_1 := blk_frozen BK160.out 1; have hfz38_2 := blk_frozen BK160.out 2; have hfz38_3 := blk_frozen BK160.out 3; have hfz38_4 := blk_frozen BK160.out 4; have hfz38_5 := blk_frozen BK160.out 5; have hfz38_6 := blk_frozen BK160.out 6; have hfz38_7 := blk_frozen BK160.out 7))
       (try simp only [Act.put, List.setIfInBounds_toArray, List.set_cons_zero, List.set_cons_succ])
       go_cut [12, 13] (fun v12 v13 wc => ∃ (kq : Nat) (x12_31 : ByteArray) (x13_31 : Int), v12 = .string x12_31 ∧ v13 = .int .i64 x13_31 ∧ Aside0 (filter_Away.j1 kq x12_31 x13_31 a1_0 a1_1 a2_0 a2_1 a2_2 l2_3 l2_4 ((rd_T26 l0 t158).f0) ((rd_T26 l0 t158).f1) ((rd_T26 l0 t158).f2) ((rd_T26 l0 t158).f3) ((rd_T26 l0 t158).f4) ((rd_T26 l0 t158).f5) ((rd_T26 l0 t158).f6) ((rd_T26 l0 t158).f7) = some (r1, r2, r3)) ∧ Aside0 (kq ≤ kj4) ∧ Aside0 (wc.heap[gb153]? = some (.cells #[.int .i64 a1_0, .string a1_1] 30 (0, 0))) ∧ Aside0 (wc.heap[gb154]? = some (.cells #[.string a2_0, .string a2_1, .string a2_2, (.slice A2_3 l2_3.length c2_3), (.slice A2_4 l2_4.length c2_4)] 33 (0, 0))) ∧ Aside0 (wc.heap[gb155]? = some (.cells #[.int .i64 0, .string (⟨#[]⟩ : ByteArray)] 44 (0, 0))) ∧ Aside0 (wc.heap[gb160]? = some (.cells #[.int .i64 ((rd_T26 l0 t158).f0), .string ((rd_T26 l0 t158).f1), .string ((rd_T26 l0 t158).f2), .string ((rd_T26 l0 t158).f3), .int .i64 ((rd_T26 l0 t158).f4), .string ((rd_T26 l0 t158).f5), .bool ((rd_T26 l0 t158).f6), .int .i64 ((rd_T26 l0 t158).f7)] 26 (0, 0))) ∧ Aside0 (Below w.heap.size w wc))
       case first =>
        have H := HC32.out
        clear HC32
        by_cases c39 : a3 = true
        ·subst c39
         have H1 : (filter_Away.j1 kj4 (⟨#[104, 116, 116, 112, 115, 58, 47, 47]⟩ : ByteArray) 443 a1_0 a1_1 a2_0 a2_1 a2_2 l2_3 l2_4 ((rd_T26 l0 t158).f0) ((rd_T26 l0 t158).f1) ((rd_T26 l0 t158).f2) ((rd_T26 l0 t158).f3) ((rd_T26 l0 t158).f4) ((rd_T26 l0 t158).f5) ((rd_T26 l0 t158).f6) ((rd_T26 l0 t158).f7)) = some (r1, r2, r3) := by rw [if_pos rfl] at H; exact H
         clear H
         have H := H1
         clear H1
         have H' := Aside0.mk H
         clear H
         go_wp2
         go_meet
         case rel => exact ⟨_, ((⟨#[104, 116, 116, 112, 115, 58, 47, 47]⟩ : ByteArray)), (443), sd_, sd_, H', ⟨by have := HJ4.out; first | omega | exact Nat.le_refl _⟩, ⟨by (with_reducible repeat (first | refine blk_drewN ?_ _ | refine blk_drew ?_ | refine blk_alloc ?_ _)); refine blk_far ?_ NB153_160.out _; (with_reducible repeat (first | refine blk_drewN ?_ _ | refine blk_drew ?_ | refine blk_alloc ?_ _)); refine blk_far ?_ NB153_160.out _; (with_reducible repeat (first | refine blk_drewN ?_ _ | refine blk_drew ?_ | refine blk_alloc ?_ _)); refine blk_far ?_ NB153_160.out _; (with_reducible repeat (first | refine blk_drewN ?_ _ | refine blk_drew ?_ | refine blk_alloc ?_ _)); refine blk_far ?_ NB153_160.out _; (with_reducible repeat (first | refine blk_drewN ?_ _ | refine blk_drew ?_ | refine blk_alloc ?_ _)); refine blk_far ?_ NB153_160.out _; (with_reducible repeat (first | refine blk_drewN ?_ _ | refine blk_drew ?_ | refine blk_alloc ?_ _)); refine blk_far ?_ NB153_160.out _; (with_reducible repeat (first | refine blk_drewN ?_ _ | refine blk_drew ?_ | refine blk_alloc ?_ _)); refine blk_far ?_ NB153_160.out _; (with_reducible repeat (first | refine blk_drewN ?_ _ | refine blk_drew ?_ | refine blk_alloc ?_ _)); refine blk_far ?_ NB153_160.out _; (with_reducible repeat (first | refine blk_drewN ?_ _ | refine blk_drew ?_ | refine blk_alloc ?_ _)); exact BK153.out⟩, ⟨by (with_reducible repeat (first | refine blk_drewN ?_ _ | refine blk_drew ?_ | refine blk_alloc ?_ _)); refine blk_far ?_ NB154_160.out _; (with_reducible repeat (first | refine blk_drewN ?_ _ | refine blk_drew ?_ | refine blk_alloc ?_ _)); refine blk_far ?_ NB154_160.out _; (with_reducible repeat (first | refine blk_drewN ?_ _ | refine blk_drew ?_ | refine blk_alloc ?_ _)); refine blk_far ?_ NB154_160.out _; (with_reducible repeat (first | refine blk_drewN ?_ _ | refine blk_drew ?_ | refine blk_alloc ?_ _)); refine blk_far ?_ NB154_160.out _; (with_reducible repeat (first | refine blk_drewN ?_ _ | refine blk_drew ?_ | refine blk_alloc ?_ _)); refine blk_far ?_ NB154_160.out _; (with_reducible repeat (first | refine blk_drewN ?_ _ | refine blk_drew ?_ | refine blk_alloc ?_ _)); refine blk_far ?_ NB154_160.out _; (with_reducible repeat (first | refine blk_drewN ?_ _ | refine blk_drew ?_ | refine blk_alloc ?_ _)); refine blk_far ?_ NB154_160.out _; (with_reducible repeat (first | refine blk_drewN ?_ _ | refine blk_drew ?_ | refine blk_alloc ?_ _)); refine blk_far ?_ NB154_160.out _; (with_reducible repeat (first | refine blk_drewN ?_ _ | refine blk_drew ?_ | refine blk_alloc ?_ _)); exact BK154.out⟩, ⟨by (with_reducible repeat (first | refine blk_drewN ?_ _ | refine blk_drew ?_ | refine blk_alloc ?_ _)); refine blk_far ?_ NB155_160.out _; (with_reducible repeat (first | refine blk_drewN ?_ _ | refine blk_drew ?_ | refine blk_alloc ?_ _)); refine blk_far ?_ NB155_160.out _; (with_reducible repeat (first | refine blk_drewN ?_ _ | refine blk_drew ?_ | refine blk_alloc ?_ _)); refine blk_far ?_ NB155_160.out _; (with_reducible repeat (first | refine blk_drewN ?_ _ | refine blk_drew ?_ | refine blk_alloc ?_ _)); refine blk_far ?_ NB155_160.out _; (with_reducible repeat (first | refine blk_drewN ?_ _ | refine blk_drew ?_ | refine blk_alloc ?_ _)); refine blk_far ?_ NB155_160.out _; (with_reducible repeat (first | refine blk_drewN ?_ _ | refine blk_drew ?_ | refine blk_alloc ?_ _)); refine blk_far ?_ NB155_160.out _; (with_reducible repeat (first | refine blk_drewN ?_ _ | refine blk_drew ?_ | refine blk_alloc ?_ _)); refine blk_far ?_ NB155_160.out _; (with_reducible repeat (first | refine blk_drewN ?_ _ | refine blk_drew ?_ | refine blk_alloc ?_ _)); refine blk_far ?_ NB155_160.out _; (with_reducible repeat (first | refine blk_drewN ?_ _ | refine blk_drew ?_ | refine blk_alloc ?_ _)); exact BK155.out⟩, ⟨by (with_reducible repeat (first | refine blk_drewN ?_ _ | refine blk_drew ?_ | refine blk_alloc ?_ _)); refine blk_put (cs := #[.int .i64 ((rd_T26 l0 t158).f0), .string ((rd_T26 l0 t158).f1), .string ((rd_T26 l0 t158).f2), .string ((rd_T26 l0 t158).f3), .int .i64 ((rd_T26 l0 t158).f4), .string ((rd_T26 l0 t158).f5), .bool ((rd_T26 l0 t158).f6), .int .i64 0]) ?_ 7 _ rfl; (with_reducible repeat (first | refine blk_drewN ?_ _ | refine blk_drew ?_ | refine blk_alloc ?_ _)); refine blk_put (cs := #[.int .i64 ((rd_T26 l0 t158).f0), .string ((rd_T26 l0 t158).f1), .string ((rd_T26 l0 t158).f2), .string ((rd_T26 l0 t158).f3), .int .i64 ((rd_T26 l0 t158).f4), .string ((rd_T26 l0 t158).f5), .bool false, .int .i64 0]) ?_ 6 _ rfl; (with_reducible repeat (first | refine blk_drewN ?_ _ | refine blk_drew ?_ | refine blk_alloc ?_ _)); refine blk_put (cs := #[.int .i64 ((rd_T26 l0 t158).f0), .string ((rd_T26 l0 t158).f1), .string ((rd_T26 l0 t158).f2), .string ((rd_T26 l0 t158).f3), .int .i64 ((rd_T26 l0 t158).f4), .string (⟨#[]⟩ : ByteArray), .bool false, .int .i64 0]) ?_ 5 _ rfl; (with_reducible repeat (first | refine blk_drewN ?_ _ | refine blk_drew ?_ | refine blk_alloc ?_ _)); refine blk_put (cs := #[.int .i64 ((rd_T26 l0 t158).f0), .string ((rd_T26 l0 t158).f1), .string ((rd_T26 l0 t158).f2), .string ((rd_T26 l0 t158).f3), .int .i64 0, .string (⟨#[]⟩ : ByteArray), .bool false, .int .i64 0]) ?_ 4 _ rfl; (with_reducible repeat (first | refine blk_drewN ?_ _ | refine blk_drew ?_ | refine blk_alloc ?_ _)); refine blk_put (cs := #[.int .i64 ((rd_T26 l0 t158).f0), .string ((rd_T26 l0 t158).f1), .string ((rd_T26 l0 t158).f2), .string (⟨#[]⟩ : ByteArray), .int .i64 0, .string (⟨#[]⟩ : ByteArray), .bool false, .int .i64 0]) ?_ 3 _ rfl; (with_reducible repeat (first | refine blk_drewN ?_ _ | refine blk_drew ?_ | refine blk_alloc ?_ _)); refine blk_put (cs := #[.int .i64 ((rd_T26 l0 t158).f0), .string ((rd_T26 l0 t158).f1), .string (⟨#[]⟩ : ByteArray), .string (⟨#[]⟩ : ByteArray), .int .i64 0, .string (⟨#[]⟩ : ByteArray), .bool false, .int .i64 0]) ?_ 2 _ rfl; (with_reducible repeat (first | refine blk_drewN ?_ _ | refine blk_drew ?_ | refine blk_alloc ?_ _)); refine blk_put (cs := #[.int .i64 ((rd_T26 l0 t158).f0), .string (⟨#[]⟩ : ByteArray), .string (⟨#[]⟩ : ByteArray), .string (⟨#[]⟩ : ByteArray), .int .i64 0, .string (⟨#[]⟩ : ByteArray), .bool false, .int .i64 0]) ?_ 1 _ rfl; (with_reducible repeat (first | refine blk_drewN ?_ _ | refine blk_drew ?_ | refine blk_alloc ?_ _)); refine blk_put (cs := #[.int .i64 0, .string (⟨#[]⟩ : ByteArray), .string (⟨#[]⟩ : ByteArray), .string (⟨#[]⟩ : ByteArray), .int .i64 0, .string (⟨#[]⟩ : ByteArray), .bool false, .int .i64 0]) ?_ 0 _ rfl; (with_reducible repeat (first | refine blk_drewN ?_ _ | refine blk_drew ?_ | refine blk_alloc ?_ _)); exact BK160.out⟩, ⟨bel_ HB.out⟩⟩
        ·replace c39 := Bool.eq_false_iff.mpr c39
         subst c39
         have H1 : (filter_Away.j1 kj4 (⟨#[104, 116, 116, 112, 58, 47, 47]⟩ : ByteArray) 80 a1_0 a1_1 a2_0 a2_1 a2_2 l2_3 l2_4 ((rd_T26 l0 t158).f0) ((rd_T26 l0 t158).f1) ((rd_T26 l0 t158).f2) ((rd_T26 l0 t158).f3) ((rd_T26 l0 t158).f4) ((rd_T26 l0 t158).f5) ((rd_T26 l0 t158).f6) ((rd_T26 l0 t158).f7)) = some (r1, r2, r3) := by rw [if_neg (show ¬ (false = true) by decide)] at H; exact H
         clear H
         have H := H1
         clear H1
         have H' := Aside0.mk H
         clear H
         go_wp2
         go_meet
         case rel => exact ⟨_, ((⟨#[104, 116, 116, 112, 58, 47, 47]⟩ : ByteArray)), (80), sd_, sd_, H', ⟨by have := HJ4.out; first | omega | exact Nat.le_refl _⟩, ⟨by (with_reducible repeat (first | refine blk_drewN ?_ _ | refine blk_drew ?_ | refine blk_alloc ?_ _)); refine blk_far ?_ NB153_160.out _; (with_reducible repeat (first | refine blk_drewN ?_ _ | refine blk_drew ?_ | refine blk_alloc ?_ _)); refine blk_far ?_ NB153_160.out _; (with_reducible repeat (first | refine blk_drewN ?_ _ | refine blk_drew ?_ | refine blk_alloc ?_ _)); refine blk_far ?_ NB153_160.out _; (with_reducible repeat (first | refine blk_drewN ?_ _ | refine blk_drew ?_ | refine blk_alloc ?_ _)); refine blk_far ?_ NB153_160.out _; (with_reducible repeat (first | refine blk_drewN ?_ _ | refine blk_drew ?_ | refine blk_alloc ?_ _)); refine blk_far ?_ NB153_160.out _; (with_reducible repeat (first | refine blk_drewN ?_ _ | refine blk_drew ?_ | refine blk_alloc ?_ _)); refine blk_far ?_ NB153_160.out _; (with_reducible repeat (first | refine blk_drewN ?_ _ | refine blk_drew ?_ | refine blk_alloc ?_ _)); refine blk_far ?_ NB153_160.out _; (with_reducible repeat (first | refine blk_drewN ?_ _ | refine blk_drew ?_ | refine blk_alloc ?_ _)); refine blk_far ?_ NB153_160.out _; (with_reducible repeat (first | refine blk_drewN ?_ _ | refine blk_drew ?_ | refine blk_alloc ?_ _)); exact BK153.out⟩, ⟨by (with_reducible repeat (first | refine blk_drewN ?_ _ | refine blk_drew ?_ | refine blk_alloc ?_ _)); refine blk_far ?_ NB154_160.out _; (with_reducible repeat (first | refine blk_drewN ?_ _ | refine blk_drew ?_ | refine blk_alloc ?_ _)); refine blk_far ?_ NB154_160.out _; (with_reducible repeat (first | refine blk_drewN ?_ _ | refine blk_drew ?_ | refine blk_alloc ?_ _)); refine blk_far ?_ NB154_160.out _; (with_reducible repeat (first | refine blk_drewN ?_ _ | refine blk_drew ?_ | refine blk_alloc ?_ _)); refine blk_far ?_ NB154_160.out _; (with_reducible repeat (first | refine blk_drewN ?_ _ | refine blk_drew ?_ | refine blk_alloc ?_ _)); refine blk_far ?_ NB154_160.out _; (with_reducible repeat (first | refine blk_drewN ?_ _ | refine blk_drew ?_ | refine blk_alloc ?_ _)); refine blk_far ?_ NB154_160.out _; (with_reducible repeat (first | refine blk_drewN ?_ _ | refine blk_drew ?_ | refine blk_alloc ?_ _)); refine blk_far ?_ NB154_160.out _; (with_reducible repeat (first | refine blk_drewN ?_ _ | refine blk_drew ?_ | refine blk_alloc ?_ _)); refine blk_far ?_ NB154_160.out _; (with_reducible repeat (first | refine blk_drewN ?_ _ | refine blk_drew ?_ | refine blk_alloc ?_ _)); exact BK154.out⟩, ⟨by (with_reducible repeat (first | refine blk_drewN ?_ _ | refine blk_drew ?_ | refine blk_alloc ?_ _)); refine blk_far ?_ NB155_160.out _; (with_reducible repeat (first | refine blk_drewN ?_ _ | refine blk_drew ?_ | refine blk_alloc ?_ _)); refine blk_far ?_ NB155_160.out _; (with_reducible repeat (first | refine blk_drewN ?_ _ | refine blk_drew ?_ | refine blk_alloc ?_ _)); refine blk_far ?_ NB155_160.out _; (with_reducible repeat (first | refine blk_drewN ?_ _ | refine blk_drew ?_ | refine blk_alloc ?_ _)); refine blk_far ?_ NB155_160.out _; (with_reducible repeat (first | refine blk_drewN ?_ _ | refine blk_drew ?_ | refine blk_alloc ?_ _)); refine blk_far ?_ NB155_160.out _; (with_reducible repeat (first | refine blk_drewN ?_ _ | refine blk_drew ?_ | refine blk_alloc ?_ _)); refine blk_far ?_ NB155_160.out _; (with_reducible repeat (first | refine blk_drewN ?_ _ | refine blk_drew ?_ | refine blk_alloc ?_ _)); refine blk_far ?_ NB155_160.out _; (with_reducible repeat (first | refine blk_drewN ?_ _ | refine blk_drew ?_ | refine blk_alloc ?_ _)); refine blk_far ?_ NB155_160.out _; (with_reducible repeat (first | refine blk_drewN ?_ _ | refine blk_drew ?_ | refine blk_alloc ?_ _)); exact BK155.out⟩, ⟨by (with_reducible repeat (first | refine blk_drewN ?_ _ | refine blk_drew ?_ | refine blk_alloc ?_ _)); refine blk_put (cs := #[.int .i64 ((rd_T26 l0 t158).f0), .string ((rd_T26 l0 t158).f1), .string ((rd_T26 l0 t158).f2), .string ((rd_T26 l0 t158).f3), .int .i64 ((rd_T26 l0 t158).f4), .string ((rd_T26 l0 t158).f5), .bool ((rd_T26 l0 t158).f6), .int .i64 0]) ?_ 7 _ rfl; (with_reducible repeat (first | refine blk_drewN ?_ _ | refine blk_drew ?_ | refine blk_alloc ?_ _)); refine blk_put (cs := #[.int .i64 ((rd_T26 l0 t158).f0), .string ((rd_T26 l0 t158).f1), .string ((rd_T26 l0 t158).f2), .string ((rd_T26 l0 t158).f3), .int .i64 ((rd_T26 l0 t158).f4), .string ((rd_T26 l0 t158).f5), .bool false, .int .i64 0]) ?_ 6 _ rfl; (with_reducible repeat (first | refine blk_drewN ?_ _ | refine blk_drew ?_ | refine blk_alloc ?_ _)); refine blk_put (cs := #[.int .i64 ((rd_T26 l0 t158).f0), .string ((rd_T26 l0 t158).f1), .string ((rd_T26 l0 t158).f2), .string ((rd_T26 l0 t158).f3), .int .i64 ((rd_T26 l0 t158).f4), .string (⟨#[]⟩ : ByteArray), .bool false, .int .i64 0]) ?_ 5 _ rfl; (with_reducible repeat (first | refine blk_drewN ?_ _ | refine blk_drew ?_ | refine blk_alloc ?_ _)); refine blk_put (cs := #[.int .i64 ((rd_T26 l0 t158).f0), .string ((rd_T26 l0 t158).f1), .string ((rd_T26 l0 t158).f2), .string ((rd_T26 l0 t158).f3), .int .i64 0, .string (⟨#[]⟩ : ByteArray), .bool false, .int .i64 0]) ?_ 4 _ rfl; (with_reducible repeat (first | refine blk_drewN ?_ _ | refine blk_drew ?_ | refine blk_alloc ?_ _)); refine blk_put (cs := #[.int .i64 ((rd_T26 l0 t158).f0), .string ((rd_T26 l0 t158).f1), .string ((rd_T26 l0 t158).f2), .string (⟨#[]⟩ : ByteArray), .int .i64 0, .string (⟨#[]⟩ : ByteArray), .bool false, .int .i64 0]) ?_ 3 _ rfl; (with_reducible repeat (first | refine blk_drewN ?_ _ | refine blk_drew ?_ | refine blk_alloc ?_ _)); refine blk_put (cs := #[.int .i64 ((rd_T26 l0 t158).f0), .string ((rd_T26 l0 t158).f1), .string (⟨#[]⟩ : ByteArray), .string (⟨#[]⟩ : ByteArray), .int .i64 0, .string (⟨#[]⟩ : ByteArray), .bool false, .int .i64 0]) ?_ 2 _ rfl; (with_reducible repeat (first | refine blk_drewN ?_ _ | refine blk_drew ?_ | refine blk_alloc ?_ _)); refine blk_put (cs := #[.int .i64 ((rd_T26 l0 t158).f0), .string (⟨#[]⟩ : ByteArray), .string (⟨#[]⟩ : ByteArray), .string (⟨#[]⟩ : ByteArray), .int .i64 0, .string (⟨#[]⟩ : ByteArray), .bool false, .int .i64 0]) ?_ 1 _ rfl; (with_reducible repeat (first | refine blk_drewN ?_ _ | refine blk_drew ?_ | refine blk_alloc ?_ _)); refine blk_put (cs := #[.int .i64 0, .string (⟨#[]⟩ : ByteArray), .string (⟨#[]⟩ : ByteArray), .string (⟨#[]⟩ : ByteArray), .int .i64 0, .string (⟨#[]⟩ : ByteArray), .bool false, .int .i64 0]) ?_ 0 _ rfl; (with_reducible repeat (first | refine blk_drewN ?_ _ | refine blk_drew ?_ | refine blk_alloc ?_ _)); exact BK160.out⟩, ⟨bel_ HB.out⟩⟩
       case rest =>
        clear HC32
        try clear c1
        try clear p1
        try clear q1
        try clear hx1
        try clear c2
        try clear p2
        try clear c3
        try clear c4
        try clear c10
        try clear c12
        try clear c13
        try clear c14
        try clear p15
        try clear q15
        try clear hx15
        try clear c16
        try clear c19
        try clear c20
        try clear c21
        try clear c22
        try clear c25
        try clear c25b0
        try clear c27
        try clear c28
        try clear c30
        try clear c30b0
        try clear c31
        try clear c31b0
        try clear c35
        try clear c36
        try clear c37
        try clear c39
        try clear hcz15_0
        try clear hcz15_1
        try clear hcz17_0
        try clear hcz17_1
        try clear hcz17_2
        try clear hcz17_3
        try clear hcz17_4
        try clear hcz23_0
        try clear hcz23_1
        try clear hcz29_0
        try clear hcz29_1
        try clear hcz38_0
        try clear hcz38_1
        try clear hcz38_2
        try clear hcz38_3
        try clear hcz38_4
        try clear hcz38_5
        try clear hcz38_6
        try clear hcz38_7
        try clear hfz15_0
        try clear hfz15_1
        try clear hfz17_0
        try clear hfz17_1
        try clear hfz17_2
        try clear hfz17_3
        try clear hfz17_4
        try clear hfz23_0
        try clear hfz23_1
        try clear hfz29_0
        try clear hfz29_1
        try clear hfz38_0
        try clear hfz38_1
        try clear hfz38_2
        try clear hfz38_3
        try clear hfz38_4
        try clear hfz38_5
        try clear hfz38_6
        try clear hfz38_7
        try clear hx159_0
        try clear hx159_1
        try clear hx159_2
        try clear hx159_3
        try clear hx159_4
        try clear hx159_5
        try clear hx159_6
        try clear hx159_7
        try clear p159
        try clear p2
        try clear q159
        obtain ⟨kq, x12_31, x13_31, rfl, rfl, HA, HJ31, BK153, BK154, BK155, BK160, HB⟩ := hcut
        cases kq with
        | zero => exact absurd HA.out (by simp [filter_Away.j1])
        | succ kj31 =>
         have H := HA.out
         clear HA
         simp only [filter_Away.j1] at H
         have HC40 := Aside0.mk H
         clear H
         have hnb41 := NB160_153.out
         have hnc41 := NB153_160.out
         have hnb42 := NB160_154.out
         have hnc42 := NB154_160.out
         have hnb43 := NB160_155.out
         have hnc43 := NB155_160.out
         have hcz44_0 : wc.cell? ⟨gb160, 0, none⟩ = some (.int .i64 ((rd_T26 l0 t158).f0)) := (blk_cell BK160.out 0).trans rfl
         have hcz44_1 : wc.cell? ⟨gb160, 1, none⟩ = some (.string ((rd_T26 l0 t158).f1)) := (blk_cell BK160.out 1).trans rfl
         have hcz44_2 : wc.cell? ⟨gb160, 2, none⟩ = some (.string ((rd_T26 l0 t158).f2)) := (blk_cell BK160.out 2).trans rfl
         have hcz44_3 : wc.cell? ⟨gb160, 3, none⟩ = some (.string ((rd_T26 l0 t158).f3)) := (blk_cell BK160.out 3).trans rfl
         have hcz44_4 : wc.cell? ⟨gb160, 4, none⟩ = some (.int .i64 ((rd_T26 l0 t158).f4)) := (blk_cell BK160.out 4).trans rfl
         have hcz44_5 : wc.cell? ⟨gb160, 5, none⟩ = some (.string ((rd_T26 l0 t158).f5)) := (blk_cell BK160.out 5).trans rfl
         have hcz44_6 : wc.cell? ⟨gb160, 6, none⟩ = some (.bool ((rd_T26 l0 t158).f6)) := (blk_cell BK160.out 6).trans rfl
         have hcz44_7 : wc.cell? ⟨gb160, 7, none⟩ = some (.int .i64 ((rd_T26 l0 t158).f7)) := (blk_cell BK160.out 7).trans rfl
         have hfz44_0 := blk_frozen BK160.out 0
         have hfz44_1 := blk_frozen BK160.out 1
         have hfz44_2 := blk_frozen BK160.out 2
         have hfz44_3 := blk_frozen BK160.out 3
         have hfz44_4 := blk_frozen BK160.out 4
         have hfz44_5 := blk_frozen BK160.out 5
         have hfz44_6 := blk_frozen BK160.out 6
         have hfz44_7 := blk_frozen BK160.out 7
         go_upto_if 39 with (fail)
         go_cut [] (fun wc => ∃ (kq : Nat) (x155001_39 : ByteArray), Aside0 (filter_Away.j2 kq x12_31 x13_31 a1_0 a1_1 a2_0 x155001_39 a2_2 l2_3 l2_4 ((rd_T26 l0 t158).f0) ((rd_T26 l0 t158).f1) ((rd_T26 l0 t158).f2) ((rd_T26 l0 t158).f3) ((rd_T26 l0 t158).f4) ((rd_T26 l0 t158).f5) ((rd_T26 l0 t158).f6) ((rd_T26 l0 t158).f7) = some (r1, r2, r3)) ∧ Aside0 (kq ≤ kj31) ∧ Aside0 (wc.heap[gb153]? = some (.cells #[.int .i64 a1_0, .string a1_1] 30 (0, 0))) ∧ Aside0 (wc.heap[gb154]? = some (.cells #[.string a2_0, .string x155001_39, .string a2_2, (.slice A2_3 l2_3.length c2_3), (.slice A2_4 l2_4.length c2_4)] 33 (0, 0))) ∧ Aside0 (wc.heap[gb155]? = some (.cells #[.int .i64 0, .string (⟨#[]⟩ : ByteArray)] 44 (0, 0))) ∧ Aside0 (wc.heap[gb160]? = some (.cells #[.int .i64 ((rd_T26 l0 t158).f0), .string ((rd_T26 l0 t158).f1), .string ((rd_T26 l0 t158).f2), .string ((rd_T26 l0 t158).f3), .int .i64 ((rd_T26 l0 t158).f4), .string ((rd_T26 l0 t158).f5), .bool ((rd_T26 l0 t158).f6), .int .i64 ((rd_T26 l0 t158).f7)] 26 (0, 0))) ∧ Aside0 (Below w.heap.size w wc))
         case first =>
          have hcq_ : wc.cell? ⟨gb154, 1, none⟩ = some _ := (blk_cell BK154.out 1).trans rfl
          have hfq_ := blk_frozen BK154.out 1
          have H := HC40.out
          clear HC40
          by_cases c45 : ((rd_T26 l0 t158).f3).toList = ([] : List UInt8)
          ·rw [if_pos c45] at H
           have c45b2 : ((rd_T26 l0 t158).f3).toList.isEmpty = true := List.isEmpty_iff.2 c45
           have c45b0 : (((rd_T26 l0 t158).f3).toList == ([] : List UInt8)) = true := beq_iff_eq.mpr c45
           have c45b1 : (((rd_T26 l0 t158).f3).toList != ([] : List UInt8)) = false := bne_eq_false_iff_eq.mpr c45
           clear c45
           (first | rw [c45b0] | rw [c45b1] | rw [c45b2] | (simp only [i64_w, i32_w]; rw [c45b0]) | skip)
           have H' := Aside0.mk H
           clear H
           go_wp2
           go_meet
           case rel => exact ⟨_, (a2_1), H', ⟨by have := HJ4.out; have := HJ31.out; first | omega | exact Nat.le_refl _⟩, ⟨by (with_reducible repeat (first | refine blk_drewN ?_ _ | refine blk_drew ?_ | refine blk_alloc ?_ _)); exact BK153.out⟩, ⟨by (with_reducible repeat (first | refine blk_drewN ?_ _ | refine blk_drew ?_ | refine blk_alloc ?_ _)); exact BK154.out⟩, ⟨by (with_reducible repeat (first | refine blk_drewN ?_ _ | refine blk_drew ?_ | refine blk_alloc ?_ _)); exact BK155.out⟩, ⟨by (with_reducible repeat (first | refine blk_drewN ?_ _ | refine blk_drew ?_ | refine blk_alloc ?_ _)); exact BK160.out⟩, ⟨bel_ HB.out⟩⟩
          ·rw [if_neg c45] at H
           have c45b2 : ((rd_T26 l0 t158).f3).toList.isEmpty = false := by rw [List.isEmpty_eq_false_iff]; exact c45
           have c45b0 : (((rd_T26 l0 t158).f3).toList == ([] : List UInt8)) = false := beq_eq_false_iff_ne.mpr c45
           have c45b1 : (((rd_T26 l0 t158).f3).toList != ([] : List UInt8)) = true := bne_iff_ne.mpr c45
           (first | rw [c45b0] | rw [c45b1] | rw [c45b2] | (simp only [i64_w, i32_w]; rw [c45b0]) | skip)
           have H' := Aside0.mk H
           clear H
           have hnb46 := NB160_153.out
           have hnc46 := NB153_160.out
           have hnb47 := NB160_154.out
           have hnc47 := NB154_160.out
           have hnb48 := NB160_155.out
           have hnc48 := NB155_160.out
           have hcz49_0 : wc.cell? ⟨gb160, 0, none⟩ = some (.int .i64 ((rd_T26 l0 t158).f0)) := (blk_cell BK160.out 0).trans rfl
           have hcz49_1 : wc.cell? ⟨gb160, 1, none⟩ = some (.string ((rd_T26 l0 t158).f1)) := (blk_cell BK160.out 1).trans rfl
           have hcz49_2 : wc.cell? ⟨gb160, 2, none⟩ = some (.string ((rd_T26 l0 t158).f2)) := (blk_cell BK160.out 2).trans rfl
           have hcz49_3 : wc.cell? ⟨gb160, 3, none⟩ = some (.string ((rd_T26 l0 t158).f3)) := (blk_cell BK160.out 3).trans rfl
           have hcz49_4 : wc.cell? ⟨gb160, 4, none⟩ = some (.int .i64 ((rd_T26 l0 t158).f4)) := (blk_cell BK160.out 4).trans rfl
           have hcz49_5 : wc.cell? ⟨gb160, 5, none⟩ = some (.string ((rd_T26 l0 t158).f5)) := (blk_cell BK160.out 5).trans rfl
           have hcz49_6 : wc.cell? ⟨gb160, 6, none⟩ = some (.bool ((rd_T26 l0 t158).f6)) := (blk_cell BK160.out 6).trans rfl
           have hcz49_7 : wc.cell? ⟨gb160, 7, none⟩ = some (.int .i64 ((rd_T26 l0 t158).f7)) := (blk_cell BK160.out 7).trans rfl
           have hfz49_0 := blk_frozen BK160.out 0
           have hfz49_1 := blk_frozen BK160.out 1
           have hfz49_2 := blk_frozen BK160.out 2
           have hfz49_3 := blk_frozen BK160.out 3
           have hfz49_4 := blk_frozen BK160.out 4
           have hfz49_5 := blk_frozen BK160.out 5
           have hfz49_6 := blk_frozen BK160.out 6
           have hfz49_7 := blk_frozen BK160.out 7
           have hnb50 := NB154_153.out
           have hnc50 := NB153_154.out
           have hnb51 := NB154_155.out
           have hnc51 := NB155_154.out
           have hcz52_0 : wc.cell? ⟨gb154, 0, none⟩ = some (.string a2_0) := (blk_cell BK154.out 0).trans rfl
           have hcz52_1 : wc.cell? ⟨gb154, 1, none⟩ = some (.string a2_1) := (blk_cell BK154.out 1).trans rfl
           have hcz52_2 : wc.cell? ⟨gb154, 2, none⟩ = some (.string a2_2) := (blk_cell BK154.out 2).trans rfl
           have hcz52_3 : wc.cell? ⟨gb154, 3, none⟩ = some (.slice A2_3 l2_3.length c2_3) := (blk_cell BK154.out 3).trans rfl
           have hcz52_4 : wc.cell? ⟨gb154, 4, none⟩ = some (.slice A2_4 l2_4.length c2_4) := (blk_cell BK154.out 4).trans rfl
           have hfz52_0 := blk_frozen BK154.out 0
           have hfz52_1 := blk_frozen BK154.out 1
           have hfz52_2 := blk_frozen BK154.out 2
           have hfz52_3 := blk_frozen BK154.out 3
           have hfz52_4 := blk_frozen BK154.out 4
           go_wp2
           go_meet
           case rel => exact ⟨_, (((rd_T26 l0 t158).f3)), H', ⟨by have := HJ4.out; have := HJ31.out; first | omega | exact Nat.le_refl _⟩, ⟨by (with_reducible repeat (first | refine blk_drewN ?_ _ | refine blk_drew ?_ | refine blk_alloc ?_ _)); refine blk_far ?_ NB153_154.out _; (with_reducible repeat (first | refine blk_drewN ?_ _ | refine blk_drew ?_ | refine blk_alloc ?_ _)); exact BK153.out⟩, ⟨by (with_reducible repeat (first | refine blk_drewN ?_ _ | refine blk_drew ?_ | refine blk_alloc ?_ _)); refine blk_put (cs := #[.string a2_0, .string a2_1, .string a2_2, .slice A2_3 l2_3.length c2_3, .slice A2_4 l2_4.length c2_4]) ?_ 1 _ rfl; (with_reducible repeat (first | refine blk_drewN ?_ _ | refine blk_drew ?_ | refine blk_alloc ?_ _)); exact BK154.out⟩, ⟨by (with_reducible repeat (first | refine blk_drewN ?_ _ | refine blk_drew ?_ | refine blk_alloc ?_ _)); refine blk_far ?_ NB155_154.out _; (with_reducible repeat (first | refine blk_drewN ?_ _ | refine blk_drew ?_ | refine blk_alloc ?_ _)); exact BK155.out⟩, ⟨by (with_reducible repeat (first | refine blk_drewN ?_ _ | refine blk_drew ?_ | refine blk_alloc ?_ _)); refine blk_far ?_ NB160_154.out _; (with_reducible repeat (first | refine blk_drewN ?_ _ | refine blk_drew ?_ | refine blk_alloc ?_ _)); exact BK160.out⟩, ⟨bel_ HB.out⟩⟩
         case rest =>
          clear HC40
          try clear c1
          try clear p1
          try clear q1
          try clear hx1
          try clear c2
          try clear p2
          try clear c3
          try clear c4
          try clear c5
          try clear c10
          try clear c12
          try clear c13
          try clear c14
          try clear p15
          try clear q15
          try clear hx15
          try clear c16
          try clear c19
          try clear c20
          try clear c21
          try clear c22
          try clear c25
          try clear c25b0
          try clear c27
          try clear c28
          try clear c30
          try clear c30b0
          try clear c31
          try clear c31b0
          try clear c35
          try clear c36
          try clear c37
          try clear c39
          try clear c41
          try clear c42
          try clear c43
          try clear c45
          try clear c45b0
          try clear c45b1
          try clear c45b2
          try clear c46
          try clear c47
          try clear c48
          try clear c50
          try clear c51
          try clear hcz15_0
          try clear hcz15_1
          try clear hcz17_0
          try clear hcz17_1
          try clear hcz17_2
          try clear hcz17_3
          try clear hcz17_4
          try clear hcz23_0
          try clear hcz23_1
          try clear hcz29_0
          try clear hcz29_1
          try clear hcz38_0
          try clear hcz38_1
          try clear hcz38_2
          try clear hcz38_3
          try clear hcz38_4
          try clear hcz38_5
          try clear hcz38_6
          try clear hcz38_7
          try clear hcz44_0
          try clear hcz44_1
          try clear hcz44_2
          try clear hcz44_3
          try clear hcz44_4
          try clear hcz44_5
          try clear hcz44_6
          try clear hcz44_7
          try clear hcz49_0
          try clear hcz49_1
          try clear hcz49_2
          try clear hcz49_3
          try clear hcz49_4
          try clear hcz49_5
          try clear hcz49_6
          try clear hcz49_7
          try clear hcz52_0
          try clear hcz52_1
          try clear hcz52_2
          try clear hcz52_3
          try clear hcz52_4
          try clear hfz15_0
          try clear hfz15_1
          try clear hfz17_0
          try clear hfz17_1
          try clear hfz17_2
          try clear hfz17_3
          try clear hfz17_4
          try clear hfz23_0
          try clear hfz23_1
          try clear hfz29_0
          try clear hfz29_1
          try clear hfz38_0
          try clear hfz38_1
          try clear hfz38_2
          try clear hfz38_3
          try clear hfz38_4
          try clear hfz38_5
          try clear hfz38_6
          try clear hfz38_7
          try clear hfz44_0
          try clear hfz44_1
          try clear hfz44_2
          try clear hfz44_3
          try clear hfz44_4
          try clear hfz44_5
          try clear hfz44_6
          try clear hfz44_7
          try clear hfz49_0
          try clear hfz49_1
          try clear hfz49_2
          try clear hfz49_3
          try clear hfz49_4
          try clear hfz49_5
          try clear hfz49_6
          try clear hfz49_7
          try clear hfz52_0
          try clear hfz52_1
          try clear hfz52_2
          try clear hfz52_3
          try clear hfz52_4
          try clear hx159_0
          try clear hx159_1
          try clear hx159_2
          try clear hx159_3
          try clear hx159_4
          try clear hx159_5
          try clear hx159_6
          try clear hx159_7
          try clear p1
          try clear p15
          try clear p159
          try clear p2
          try clear q1
          try clear q15
          try clear q159
          obtain ⟨kq, x155001_39, HA, HJ39, BK153, BK154, BK155, BK160, HB⟩ := hcut
          cases kq with
          | zero => exact absurd HA.out (by simp [filter_Away.j2])
          | succ kj39 =>
           have H := HA.out
           clear HA
           simp only [filter_Away.j2] at H
           by_cases c53 : x12_31.size + x155001_39.size ≤ 9223372036854775807
           ·rw [if_pos c53] at H
            have c53b0 := eq_true c53
            have c53b1 : decide (x12_31.size + x155001_39.size ≤ 9223372036854775807) = true := decide_eq_true c53
            try have c53b2 : (9223372036854775807 < x12_31.size + x155001_39.size) = False := eq_false (Nat.not_lt.2 c53)
            have HC54 := Aside0.mk H
            clear H
            have hnb55 := NB154_153.out
            have hnc55 := NB153_154.out
            have hnb56 := NB154_155.out
            have hnc56 := NB155_154.out
            have hnb57 := NB154_160.out
            have hnc57 := NB160_154.out
            have hcz58_0 : wc.cell? ⟨gb154, 0, none⟩ = some (.string a2_0) := (blk_cell BK154.out 0).trans rfl
            have hcz58_1 : wc.cell? ⟨gb154, 1, none⟩ = some (.string x155001_39) := (blk_cell BK154.out 1).trans rfl
            have hcz58_2 : wc.cell? ⟨gb154, 2, none⟩ = some (.string a2_2) := (blk_cell BK154.out 2).trans rfl
            have hcz58_3 : wc.cell? ⟨gb154, 3, none⟩ = some (.slice A2_3 l2_3.length c2_3) := (blk_cell BK154.out 3).trans rfl
            have hcz58_4 : wc.cell? ⟨gb154, 4, none⟩ = some (.slice A2_4 l2_4.length c2_4) := (blk_cell BK154.out 4).trans rfl
            have hfz58_0 := blk_frozen BK154.out 0
            have hfz58_1 := blk_frozen BK154.out 1
            have hfz58_2 := blk_frozen BK154.out 2
            have hfz58_3 := blk_frozen BK154.out 3
            have hfz58_4 := blk_frozen BK154.out 4
            go_upto_region 12 with (fail)
            go_cut [55] (fun v55 wc => ∃ (kq : Nat) (x55_53 : Bool), v55 = .bool x55_53 ∧ Aside0 (filter_Away.j3 kq (x12_31 ++ x155001_39) x55_53 a1_0 a1_1 a2_0 x155001_39 a2_2 l2_3 l2_4 ((rd_T26 l0 t158).f0) ((rd_T26 l0 t158).f1) ((rd_T26 l0 t158).f2) ((rd_T26 l0 t158).f3) ((rd_T26 l0 t158).f4) ((rd_T26 l0 t158).f5) ((rd_T26 l0 t158).f6) ((rd_T26 l0 t158).f7) = some (r1, r2, r3)) ∧ Aside0 (kq ≤ kj39) ∧ Aside0 (wc.heap[gb153]? = some (.cells #[.int .i64 a1_0, .string a1_1] 30 (0, 0))) ∧ Aside0 (wc.heap[gb154]? = some (.cells #[.string a2_0, .string x155001_39, .string a2_2, (.slice A2_3 l2_3.length c2_3), (.slice A2_4 l2_4.length c2_4)] 33 (0, 0))) ∧ Aside0 (wc.heap[gb155]? = some (.cells #[.int .i64 0, .string (⟨#[]⟩ : ByteArray)] 44 (0, 0))) ∧ Aside0 (wc.heap[gb160]? = some (.cells #[.int .i64 ((rd_T26 l0 t158).f0), .string ((rd_T26 l0 t158).f1), .string ((rd_T26 l0 t158).f2), .string ((rd_T26 l0 t158).f3), .int .i64 ((rd_T26 l0 t158).f4), .string ((rd_T26 l0 t158).f5), .bool ((rd_T26 l0 t158).f6), .int .i64 ((rd_T26 l0 t158).f7)] 26 (0, 0))) ∧ Aside0 (Below w.heap.size w wc))
            case first =>
             have H := HC54.out
             clear HC54
             by_cases c59 : ((rd_T26 l0 t158).f4) = 0
             ·rw [if_pos c59] at H
              have c59b0 : (((rd_T26 l0 t158).f4) == 0) = true := beq_iff_eq.mpr c59
              have c59b1 : (((rd_T26 l0 t158).f4) != 0) = false := bne_eq_false_iff_eq.mpr c59
              clear c59
              (first | rw [c59b0] | rw [c59b1] | rw [c59b2] | (simp only [i64_w, i32_w]; rw [c59b0]) | skip)
              have H' := Aside0.mk H
              clear H
              have hnb60 := NB160_153.out
              have hnc60 := NB153_160.out
              have hnb61 := NB160_154.out
              have hnc61 := NB154_160.out
              have hnb62 := NB160_155.out
              have hnc62 := NB155_160.out
              have hcz63_0 : wc.cell? ⟨gb160, 0, none⟩ = some (.int .i64 ((rd_T26 l0 t158).f0)) := (blk_cell BK160.out 0).trans rfl
              have hcz63_1 : wc.cell? ⟨gb160, 1, none⟩ = some (.string ((rd_T26 l0 t158).f1)) := (blk_cell BK160.out 1).trans rfl
              have hcz63_2 : wc.cell? ⟨gb160, 2, none⟩ = some (.string ((rd_T26 l0 t158).f2)) := (blk_cell BK160.out 2).trans rfl
              have hcz63_3 : wc.cell? ⟨gb160, 3, none⟩ = some (.string ((rd_T26 l0 t158).f3)) := (blk_cell BK160.out 3).trans rfl
              have hcz63_4 : wc.cell? ⟨gb160, 4, none⟩ = some (.int .i64 ((rd_T26 l0 t158).f4)) := (blk_cell BK160.out 4).trans rfl
              have hcz63_5 : wc.cell? ⟨gb160, 5, none⟩ = some (.string ((rd_T26 l0 t158).f5)) := (blk_cell BK160.out 5).trans rfl
              have hcz63_6 : wc.cell? ⟨gb160, 6, none⟩ = some (.bool ((rd_T26 l0 t158).f6)) := (blk_cell BK160.out 6).trans rfl
              have hcz63_7 : wc.cell? ⟨gb160, 7, none⟩ = some (.int .i64 ((rd_T26 l0 t158).f7)) := (blk_cell BK160.out 7).trans rfl
              have hfz63_0 := blk_frozen BK160.out 0
              have hfz63_1 := blk_frozen BK160.out 1
              have hfz63_2 := blk_frozen BK160.out 2
              have hfz63_3 := blk_frozen BK160.out 3
              have hfz63_4 := blk_frozen BK160.out 4
              have hfz63_5 := blk_frozen BK160.out 5
              have hfz63_6 := blk_frozen BK160.out 6
              have hfz63_7 := blk_frozen BK160.out 7
              go_wp2
              go_meet
              case rel => exact ⟨_, (false), sd_, H', ⟨by have := HJ4.out; have := HJ31.out; have := HJ39.out; first | omega | exact Nat.le_refl _⟩, ⟨by (with_reducible repeat (first | refine blk_drewN ?_ _ | refine blk_drew ?_ | refine blk_alloc ?_ _)); exact BK153.out⟩, ⟨by (with_reducible repeat (first | refine blk_drewN ?_ _ | refine blk_drew ?_ | refine blk_alloc ?_ _)); exact BK154.out⟩, ⟨by (with_reducible repeat (first | refine blk_drewN ?_ _ | refine blk_drew ?_ | refine blk_alloc ?_ _)); exact BK155.out⟩, ⟨by (with_reducible repeat (first | refine blk_drewN ?_ _ | refine blk_drew ?_ | refine blk_alloc ?_ _)); exact BK160.out⟩, ⟨bel_ HB.out⟩⟩
             ·rw [if_neg c59] at H
              have c59b0 : (((rd_T26 l0 t158).f4) == 0) = false := beq_eq_false_iff_ne.mpr c59
              have c59b1 : (((rd_T26 l0 t158).f4) != 0) = true := bne_iff_ne.mpr c59
              (first | rw [c59b0] | rw [c59b1] | rw [c59b2] | (simp only [i64_w, i32_w]; rw [c59b0]) | skip)
              have H' := Aside0.mk H
              clear H
              have hnb64 := NB160_153.out
              have hnc64 := NB153_160.out
              have hnb65 := NB160_154.out
              have hnc65 := NB154_160.out
              have hnb66 := NB160_155.out
              have hnc66 := NB155_160.out
              have hcz67_0 : wc.cell? ⟨gb160, 0, none⟩ = some (.int .i64 ((rd_T26 l0 t158).f0)) := (blk_cell BK160.out 0).trans rfl
              have hcz67_1 : wc.cell? ⟨gb160, 1, none⟩ = some (.string ((rd_T26 l0 t158).f1)) := (blk_cell BK160.out 1).trans rfl
              have hcz67_2 : wc.cell? ⟨gb160, 2, none⟩ = some (.string ((rd_T26 l0 t158).f2)) := (blk_cell BK160.out 2).trans rfl
              have hcz67_3 : wc.cell? ⟨gb160, 3, none⟩ = some (.string ((rd_T26 l0 t158).f3)) := (blk_cell BK160.out 3).trans rfl
              have hcz67_4 : wc.cell? ⟨gb160, 4, none⟩ = some (.int .i64 ((rd_T26 l0 t158).f4)) := (blk_cell BK160.out 4).trans rfl
              have hcz67_5 : wc.cell? ⟨gb160, 5, none⟩ = some (.string ((rd_T26 l0 t158).f5)) := (blk_cell BK160.out 5).trans rfl
              have hcz67_6 : wc.cell? ⟨gb160, 6, none⟩ = some (.bool ((rd_T26 l0 t158).f6)) := (blk_cell BK160.out 6).trans rfl
              have hcz67_7 : wc.cell? ⟨gb160, 7, none⟩ = some (.int .i64 ((rd_T26 l0 t158).f7)) := (blk_cell BK160.out 7).trans rfl
              have hfz67_0 := blk_frozen BK160.out 0
              have hfz67_1 := blk_frozen BK160.out 1
              have hfz67_2 := blk_frozen BK160.out 2
              have hfz67_3 := blk_frozen BK160.out 3
              have hfz67_4 := blk_frozen BK160.out 4
              have hfz67_5 := blk_frozen BK160.out 5
              have hfz67_6 := blk_frozen BK160.out 6
              have hfz67_7 := blk_frozen BK160.out 7
              go_wp2
              go_meet
              case rel => exact ⟨_, ((((rd_T26 l0 t158).f4) != x13_31)), sd_, H', ⟨by have := HJ4.out; have := HJ31.out; have := HJ39.out; first | omega | exact Nat.le_refl _⟩, ⟨by (with_reducible repeat (first | refine blk_drewN ?_ _ | refine blk_drew ?_ | refine blk_alloc ?_ _)); exact BK153.out⟩, ⟨by (with_reducible repeat (first | refine blk_drewN ?_ _ | refine blk_drew ?_ | refine blk_alloc ?_ _)); exact BK154.out⟩, ⟨by (with_reducible repeat (first | refine blk_drewN ?_ _ | refine blk_drew ?_ | refine blk_alloc ?_ _)); exact BK155.out⟩, ⟨by (with_reducible repeat (first | refine blk_drewN ?_ _ | refine blk_drew ?_ | refine blk_alloc ?_ _)); exact BK160.out⟩, ⟨bel_ HB.out⟩⟩
            case rest =>
             clear HC54
             try clear c1
             try clear p1
             try clear q1
             try clear hx1
             try clear c2
             try clear p2
             try clear c3
             try clear c4
             try clear c5
             try clear c6
             try clear c10
             try clear c12
             try clear c13
             try clear c14
             try clear p15
             try clear q15
             try clear hx15
             try clear c16
             try clear c19
             try clear c20
             try clear c21
             try clear c22
             try clear c25
             try clear c25b0
             try clear c27
             try clear c28
             try clear c30
             try clear c30b0
             try clear c31
             try clear c31b0
             try clear c35
             try clear c36
             try clear c37
             try clear c39
             try clear c41
             try clear c42
             try clear c43
             try clear c45
             try clear c45b0
             try clear c45b1
             try clear c45b2
             try clear c46
             try clear c47
             try clear c48
             try clear c50
             try clear c51
             try clear c53
             try clear c53b0
             try clear c53b1
             try clear c53b2
             try clear c55
             try clear c56
             try clear c57
             try clear c59
             try clear c59b0
             try clear c59b1
             try clear c59b2
             try clear c60
             try clear c61
             try clear c62
             try clear c64
             try clear c65
             try clear c66
             try clear hcz15_0
             try clear hcz15_1
             try clear hcz17_0
             try clear hcz17_1
             try clear hcz17_2
             try clear hcz17_3
             try clear hcz17_4
             try clear hcz23_0
             try clear hcz23_1
             try clear hcz29_0
             try clear hcz29_1
             try clear hcz38_0
             try clear hcz38_1
             try clear hcz38_2
             try clear hcz38_3
             try clear hcz38_4
             try clear hcz38_5
             try clear hcz38_6
             try clear hcz38_7
             try clear hcz44_0
             try clear hcz44_1
             try clear hcz44_2
             try clear hcz44_3
             try clear hcz44_4
             try clear hcz44_5
             try clear hcz44_6
             try clear hcz44_7
             try clear hcz49_0
             try clear hcz49_1
             try clear hcz49_2
             try clear hcz49_3
             try clear hcz49_4
             try clear hcz49_5
             try clear hcz49_6
             try clear hcz49_7
             try clear hcz52_0
             try clear hcz52_1
             try clear hcz52_2
             try clear hcz52_3
             try clear hcz52_4
             try clear hcz58_0
             try clear hcz58_1
             try clear hcz58_2
             try clear hcz58_3
             try clear hcz58_4
             try clear hcz63_0
             try clear hcz63_1
             try clear hcz63_2
             try clear hcz63_3
             try clear hcz63_4
             try clear hcz63_5
             try clear hcz63_6
             try clear hcz63_7
             try clear hcz67_0
             try clear hcz67_1
             try clear hcz67_2
             try clear hcz67_3
             try clear hcz67_4
             try clear hcz67_5
             try clear hcz67_6
             try clear hcz67_7
             try clear hfz15_0
             try clear hfz15_1
             try clear hfz17_0
             try clear hfz17_1
             try clear hfz17_2
             try clear hfz17_3
             try clear hfz17_4
             try clear hfz23_0
             try clear hfz23_1
             try clear hfz29_0
             try clear hfz29_1
             try clear hfz38_0
             try clear hfz38_1
             try clear hfz38_2
             try clear hfz38_3
             try clear hfz38_4
             try clear hfz38_5
             try clear hfz38_6
             try clear hfz38_7
             try clear hfz44_0
             try clear hfz44_1
             try clear hfz44_2
             try clear hfz44_3
             try clear hfz44_4
             try clear hfz44_5
             try clear hfz44_6
             try clear hfz44_7
             try clear hfz49_0
             try clear hfz49_1
             try clear hfz49_2
             try clear hfz49_3
             try clear hfz49_4
             try clear hfz49_5
             try clear hfz49_6
             try clear hfz49_7
             try clear hfz52_0
             try clear hfz52_1
             try clear hfz52_2
             try clear hfz52_3
             try clear hfz52_4
             try clear hfz58_0
             try clear hfz58_1
             try clear hfz58_2
             try clear hfz58_3
             try clear hfz58_4
             try clear hfz63_0
             try clear hfz63_1
             try clear hfz63_2
             try clear hfz63_3
             try clear hfz63_4
             try clear hfz63_5
             try clear hfz63_6
             try clear hfz63_7
             try clear hfz67_0
             try clear hfz67_1
             try clear hfz67_2
             try clear hfz67_3
             try clear hfz67_4
             try clear hfz67_5
             try clear hfz67_6
             try clear hfz67_7
             try clear hx159_0
             try clear hx159_1
             try clear hx159_2
             try clear hx159_3
             try clear hx159_4
             try clear hx159_5
             try clear hx159_6
             try clear hx159_7
             try clear p1
             try clear p15
             try clear p159
             try clear p2
             try clear q1
             try clear q15
             try clear q159
             obtain ⟨kq, x55_53, rfl, HA, HJ53, BK153, BK154, BK155, BK160, HB⟩ := hcut
             cases kq with
             | zero => exact absurd HA.out (by simp [filter_Away.j3])
             | succ kj53 =>
              have H := HA.out
              clear HA
              simp only [filter_Away.j3] at H
              by_cases c68 : x55_53 = true
              ·subst c68
               have H1 : ((strconv_Itoa_47.f ((rd_T26 l0 t158).f4)).bind fun t161 => (if 1 + t161.size ≤ 9223372036854775807 then (if (x12_31 ++ x155001_39).size + ((⟨#[58]⟩ : ByteArray) ++ t161).size ≤ 9223372036854775807 then ((filter_becomes.f kj53 ((rd_T26 l0 t158).f0) ((rd_T26 l0 t158).f1) ((rd_T26 l0 t158).f2) ((rd_T26 l0 t158).f3) ((rd_T26 l0 t158).f4) ((rd_T26 l0 t158).f5) ((rd_T26 l0 t158).f6) ((rd_T26 l0 t158).f7) a1_0 a1_1 a2_2).bind fun bt162 => (if bt162.2 = 0 then (if ((x12_31 ++ x155001_39) ++ ((⟨#[58]⟩ : ByteArray) ++ t161)).size + bt162.1.size ≤ 9223372036854775807 then (some (((rd_T26 l0 t158).f7), ((x12_31 ++ x155001_39) ++ ((⟨#[58]⟩ : ByteArray) ++ t161)) ++ bt162.1, 0)) else (none)) else (some (0, (⟨#[]⟩ : ByteArray), bt162.2)))) else (none)) else (none))) = some (r1, r2, r3) := by rw [if_pos rfl] at H; exact H
               clear H
               have H := H1
               clear H1
               replace H := Option.bind_eq_some_iff.mp H
               obtain ⟨t161, A690, H⟩ := H
               replace H : (if 1 + t161.size ≤ 9223372036854775807 then (if (x12_31 ++ x155001_39).size + ((⟨#[58]⟩ : ByteArray) ++ t161).size ≤ 9223372036854775807 then ((filter_becomes.f kj53 ((rd_T26 l0 t158).f0) ((rd_T26 l0 t158).f1) ((rd_T26 l0 t158).f2) ((rd_T26 l0 t158).f3) ((rd_T26 l0 t158).f4) ((rd_T26 l0 t158).f5) ((rd_T26 l0 t158).f6) ((rd_T26 l0 t158).f7) a1_0 a1_1 a2_2).bind fun bt162 => (if bt162.2 = 0 then (if ((x12_31 ++ x155001_39) ++ ((⟨#[58]⟩ : ByteArray) ++ t161)).size + bt162.1.size ≤ 9223372036854775807 then (some (((rd_T26 l0 t158).f7), ((x12_31 ++ x155001_39) ++ ((⟨#[58]⟩ : ByteArray) ++ t161)) ++ bt162.1, 0)) else (none)) else (some (0, (⟨#[]⟩ : ByteArray), bt162.2)))) else (none)) else (none)) = some (r1, r2, r3) := H
               have A69 := Aside0.mk A690
               clear A690
               by_cases c70 : 1 + t161.size ≤ 9223372036854775807
               ·rw [if_pos c70] at H
                have c70b0 := eq_true c70
                have c70b1 : decide (1 + t161.size ≤ 9223372036854775807) = true := decide_eq_true c70
                try have c70b2 : (9223372036854775807 < 1 + t161.size) = False := eq_false (Nat.not_lt.2 c70)
                by_cases c71 : (x12_31 ++ x155001_39).size + ((⟨#[58]⟩ : ByteArray) ++ t161).size ≤ 9223372036854775807
                ·rw [if_pos c71] at H
                 have c71b0 := eq_true c71
                 have c71b1 : decide ((x12_31 ++ x155001_39).size + ((⟨#[58]⟩ : ByteArray) ++ t161).size ≤ 9223372036854775807) = true := decide_eq_true c71
                 try have c71b2 : (9223372036854775807 < (x12_31 ++ x155001_39).size + ((⟨#[58]⟩ : ByteArray) ++ t161).size) = False := eq_false (Nat.not_lt.2 c71)
                 (try have c71z : (9223372036854775807 < x12_31.size + x155001_39.size + (1 + t161.size)) = False := eq_false (Nat.not_lt.2 (by have q_ := c71; simp only [ByteArray.size_append] at q_; exact q_)))
                 replace H := Option.bind_eq_some_iff.mp H
                 obtain ⟨⟨t162, t163⟩, A720, H⟩ := H
                 replace H : (if t163 = 0 then (if ((x12_31 ++ x155001_39) ++ ((⟨#[58]⟩ : ByteArray) ++ t161)).size + t162.size ≤ 9223372036854775807 then (some (((rd_T26 l0 t158).f7), ((x12_31 ++ x155001_39) ++ ((⟨#[58]⟩ : ByteArray) ++ t161)) ++ t162, 0)) else (none)) else (some (0, (⟨#[]⟩ : ByteArray), t163))) = some (r1, r2, r3) := H
                 have A72 := Aside0.mk A720
                 clear A720
                 by_cases c73 : t163 = 0
                 ·rw [if_pos c73] at H
                  have c73b0 : (t163 == 0) = true := beq_iff_eq.mpr c73
                  have c73b1 : (t163 != 0) = false := bne_eq_false_iff_eq.mpr c73
                  clear c73
                  by_cases c74 : ((x12_31 ++ x155001_39) ++ ((⟨#[58]⟩ : ByteArray) ++ t161)).size + t162.size ≤ 9223372036854775807
                  ·rw [if_pos c74] at H
                   have c74b0 := eq_true c74
                   have c74b1 : decide (((x12_31 ++ x155001_39) ++ ((⟨#[58]⟩ : ByteArray) ++ t161)).size + t162.size ≤ 9223372036854775807) = true := decide_eq_true c74
                   try have c74b2 : (9223372036854775807 < ((x12_31 ++ x155001_39) ++ ((⟨#[58]⟩ : ByteArray) ++ t161)).size + t162.size) = False := eq_false (Nat.not_lt.2 c74)
                   (try have c74z : (9223372036854775807 < x12_31.size + x155001_39.size + (1 + t161.size) + t162.size) = False := eq_false (Nat.not_lt.2 (by have q_ := c74; simp only [ByteArray.size_append] at q_; exact q_)))
                   simp only [Option.some.injEq, Prod.mk.injEq] at H
                   obtain ⟨rfl, rfl, rfl⟩ := H
                   have hnb75 := NB160_153.out
                   have hnc75 := NB153_160.out
                   have hnb76 := NB160_154.out
                   have hnc76 := NB154_160.out
                   have hnb77 := NB160_155.out
                   have hnc77 := NB155_160.out
                   have hcz78_0 : wc.cell? ⟨gb160, 0, none⟩ = some (.int .i64 ((rd_T26 l0 t158).f0)) := (blk_cell BK160.out 0).trans rfl
                   have hcz78_1 : wc.cell? ⟨gb160, 1, none⟩ = some (.string ((rd_T26 l0 t158).f1)) := (blk_cell BK160.out 1).trans rfl
                   have hcz78_2 : wc.cell? ⟨gb160, 2, none⟩ = some (.string ((rd_T26 l0 t158).f2)) := (blk_cell BK160.out 2).trans rfl
                   have hcz78_3 : wc.cell? ⟨gb160, 3, none⟩ = some (.string ((rd_T26 l0 t158).f3)) := (blk_cell BK160.out 3).trans rfl
                   have hcz78_4 : wc.cell? ⟨gb160, 4, none⟩ = some (.int .i64 ((rd_T26 l0 t158).f4)) := (blk_cell BK160.out 4).trans rfl
                   have hcz78_5 : wc.cell? ⟨gb160, 5, none⟩ = some (.string ((rd_T26 l0 t158).f5)) := (blk_cell BK160.out 5).trans rfl
                   have hcz78_6 : wc.cell? ⟨gb160, 6, none⟩ = some (.bool ((rd_T26 l0 t158).f6)) := (blk_cell BK160.out 6).trans rfl
                   have hcz78_7 : wc.cell? ⟨gb160, 7, none⟩ = some (.int .i64 ((rd_T26 l0 t158).f7)) := (blk_cell BK160.out 7).trans rfl
                   have hfz78_0 := blk_frozen BK160.out 0
                   have hfz78_1 := blk_frozen BK160.out 1
                   have hfz78_2 := blk_frozen BK160.out 2
                   have hfz78_3 := blk_frozen BK160.out 3
                   have hfz78_4 := blk_frozen BK160.out 4
                   have hfz78_5 := blk_frozen BK160.out 5
                   have hfz78_6 := blk_frozen BK160.out 6
                   have hfz78_7 := blk_frozen BK160.out 7
                   go_wp2_with (first | ((with_reducible refine gate_callee (f := 47) rfl ?_); refine goesL_ (some 59) rfl rfl Tryz.func47 kr_ rfl #[.int .i64 ((rd_T26 l0 t158).f4)] rfl rl_ ?_; (with_reducible refine (strconv_Itoa_47.calls ((rd_T26 l0 t158).f4) t161 _ (gm_ HGL.out (bel_ HB.out)) A69.out).mono ?_); rintro e w79 ⟨rfl, hb⟩; refine ⟨_, rfl, ?_⟩; have n0_ := am_ (blk_below (g := gb153) (o := .cells #[.int .i64 a1_0, .string a1_1] 30 (0, 0)) (blk_ BK153.out) hb); have n1_ := am_ (blk_below (g := gb154) (o := .cells #[.string a2_0, .string x155001_39, .string a2_2, .slice A2_3 l2_3.length c2_3, .slice A2_4 l2_4.length c2_4] 33 (0, 0)) (blk_ BK154.out) hb); have n2_ := am_ (blk_below (g := gb155) (o := .cells #[.int .i64 0, .string (⟨#[]⟩ : ByteArray)] 44 (0, 0)) (blk_ BK155.out) hb); have n3_ := am_ (blk_below (g := gb160) (o := .cells #[.int .i64 ((rd_T26 l0 t158).f0), .string ((rd_T26 l0 t158).f1), .string ((rd_T26 l0 t158).f2), .string ((rd_T26 l0 t158).f3), .int .i64 ((rd_T26 l0 t158).f4), .string ((rd_T26 l0 t158).f5), .bool ((rd_T26 l0 t158).f6), .int .i64 ((rd_T26 l0 t158).f7)] 26 (0, 0)) (blk_ BK160.out) hb); have n4_ := am_ (below_step (bel_ HB.out) hb); clear BK153 BK154 BK155 BK160 HB; have BK153 := n0_; have BK154 := n1_; have BK155 := n2_; have BK160 := n3_; have HB := n4_; clear n0_ n1_ n2_ n3_ n4_; (try clear hb); (try clear hb2); (try clear hk); (try clear hi); have hcz80_0 : w79.cell? ⟨gb160, 0, none⟩ = some (.int .i64 ((rd_T26 l0 t158).f0)) := (blk_cell BK160.out 0).trans rfl; have hcz80_1 : w79.cell? ⟨gb160, 1, none⟩ = some (.string ((rd_T26 l0 t158).f1)) := (blk_cell BK160.out 1).trans rfl; have hcz80_2 : w79.cell? ⟨gb160, 2, none⟩ = some (.string ((rd_T26 l0 t158).f2)) := (blk_cell BK160.out 2).trans rfl; have hcz80_3 : w79.cell? ⟨gb160, 3, none⟩ = some (.string ((rd_T26 l0 t158).f3)) := (blk_cell BK160.out 3).trans rfl; have hcz80_4 : w79.cell? ⟨gb160, 4, none⟩ = some (.int .i64 ((rd_T26 l0 t158).f4)) := (blk_cell BK160.out 4).trans rfl; have hcz80_5 : w79.cell? ⟨gb160, 5, none⟩ = some (.string ((rd_T26 l0 t158).f5)) := (blk_cell BK160.out 5).trans rfl; have hcz80_6 : w79.cell? ⟨gb160, 6, none⟩ = some (.bool ((rd_T26 l0 t158).f6)) := (blk_cell BK160.out 6).trans rfl; have hcz80_7 : w79.cell? ⟨gb160, 7, none⟩ = some (.int .i64 ((rd_T26 l0 t158).f7)) := (blk_cell BK160.out 7).trans rfl; have hfz80_0 := blk_frozen BK160.out 0; have hfz80_1 := blk_frozen BK160.out 1; have hfz80_2 := blk_frozen BK160.out 2; have hfz80_3 := blk_frozen BK160.out 3; have hfz80_4 := blk_frozen BK160.out 4; have hfz80_5 := blk_frozen BK160.out 5; have hfz80_6 := blk_frozen BK160.out 6; have hfz80_7 := blk_frozen BK160.out 7; have hnb81 := NB153_154.out; have hnc81 := NB154_153.out; have hnb82 := NB153_155.out; have hnc82 := NB155_153.out; have hcz83_0 : w79.cell? ⟨gb153, 0, none⟩ = some (.int .i64 a1_0) := (blk_cell BK153.out 0).trans rfl; have hcz83_1 : w79.cell? ⟨gb153, 1, none⟩ = some (.string a1_1) := (blk_cell BK153.out 1).trans rfl; have hfz83_0 := blk_frozen BK153.out 0; have hfz83_1 := blk_frozen BK153.out 1; have hnb84 := NB154_155.out; have hnc84 := NB155_154.out; have hcz85_0 : w79.cell? ⟨gb154, 0, none⟩ = some (.string a2_0) := (blk_cell BK154.out 0).trans rfl; have hcz85_1 : w79.cell? ⟨gb154, 1, none⟩ = some (.string x155001_39) := (blk_cell BK154.out 1).trans rfl; have hcz85_2 : w79.cell? ⟨gb154, 2, none⟩ = some (.string a2_2) := (blk_cell BK154.out 2).trans rfl; have hcz85_3 : w79.cell? ⟨gb154, 3, none⟩ = some (.slice A2_3 l2_3.length c2_3) := (blk_cell BK154.out 3).trans rfl; have hcz85_4 : w79.cell? ⟨gb154, 4, none⟩ = some (.slice A2_4 l2_4.length c2_4) := (blk_cell BK154.out 4).trans rfl; have hfz85_0 := blk_frozen BK154.out 0; have hfz85_1 := blk_frozen BK154.out 1; have hfz85_2 := blk_frozen BK154.out 2; have hfz85_3 := blk_frozen BK154.out 3; have hfz85_4 := blk_frozen BK154.out 4) | ((with_reducible refine gate_callee (f := 48) rfl ?_); refine goesL_ (some 67) rfl rfl Tryz.func48 kr_ rfl #[.agg #[.int .i64 ((rd_T26 l0 t158).f0), .string ((rd_T26 l0 t158).f1), .string ((rd_T26 l0 t158).f2), .string ((rd_T26 l0 t158).f3), .int .i64 ((rd_T26 l0 t158).f4), .string ((rd_T26 l0 t158).f5), .bool ((rd_T26 l0 t158).f6), .int .i64 ((rd_T26 l0 t158).f7)], .agg #[.int .i64 a1_0, .string a1_1], .string a2_2] rfl rl_ ?_; (with_reducible refine (filter_becomes.calls kj53 ((rd_T26 l0 t158).f0) ((rd_T26 l0 t158).f1) ((rd_T26 l0 t158).f2) ((rd_T26 l0 t158).f3) ((rd_T26 l0 t158).f4) ((rd_T26 l0 t158).f5) ((rd_T26 l0 t158).f6) ((rd_T26 l0 t158).f7) a1_0 a1_1 a2_2 t162 t163 _ A72.out).mono ?_); rintro e w86 ⟨rfl, hb⟩; refine ⟨_, rfl, ?_⟩; have n0_ := am_ (blk_below (g := gb153) (o := .cells #[.int .i64 a1_0, .string a1_1] 30 (0, 0)) (blk_ BK153.out) hb); have n1_ := am_ (blk_below (g := gb154) (o := .cells #[.string a2_0, .string x155001_39, .string a2_2, .slice A2_3 l2_3.length c2_3, .slice A2_4 l2_4.length c2_4] 33 (0, 0)) (blk_ BK154.out) hb); have n2_ := am_ (blk_below (g := gb155) (o := .cells #[.int .i64 0, .string (⟨#[]⟩ : ByteArray)] 44 (0, 0)) (blk_ BK155.out) hb); have n3_ := am_ (blk_below (g := gb160) (o := .cells #[.int .i64 ((rd_T26 l0 t158).f0), .string ((rd_T26 l0 t158).f1), .string ((rd_T26 l0 t158).f2), .string ((rd_T26 l0 t158).f3), .int .i64 ((rd_T26 l0 t158).f4), .string ((rd_T26 l0 t158).f5), .bool ((rd_T26 l0 t158).f6), .int .i64 ((rd_T26 l0 t158).f7)] 26 (0, 0)) (blk_ BK160.out) hb); have n4_ := am_ (below_step (bel_ HB.out) hb); clear BK153 BK154 BK155 BK160 HB; have BK153 := n0_; have BK154 := n1_; have BK155 := n2_; have BK160 := n3_; have HB := n4_; clear n0_ n1_ n2_ n3_ n4_; (try clear hb); (try clear hb2); (try clear hk); (try clear hi); have hcz87_0 : w86.cell? ⟨gb160, 0, none⟩ = some (.int .i64 ((rd_T26 l0 t158).f0)) := (blk_cell BK160.out 0).trans rfl; have hcz87_1 : w86.cell? ⟨gb160, 1, none⟩ = some (.string ((rd_T26 l0 t158).f1)) := (blk_cell BK160.out 1).trans rfl; have hcz87_2 : w86.cell? ⟨gb160, 2, none⟩ = some (.string ((rd_T26 l0 t158).f2)) := (blk_cell BK160.out 2).trans rfl; have hcz87_3 : w86.cell? ⟨gb160, 3, none⟩ = some (.string ((rd_T26 l0 t158).f3)) := (blk_cell BK160.out 3).trans rfl; have hcz87_4 : w86.cell? ⟨gb160, 4, none⟩ = some (.int .i64 ((rd_T26 l0 t158).f4)) := (blk_cell BK160.out 4).trans rfl; have hcz87_5 : w86.cell? ⟨gb160, 5, none⟩ = some (.string ((rd_T26 l0 t158).f5)) := (blk_cell BK160.out 5).trans rfl; have hcz87_6 : w86.cell? ⟨gb160, 6, none⟩ = some (.bool ((rd_T26 l0 t158).f6)) := (blk_cell BK160.out 6).trans rfl; have hcz87_7 : w86.cell? ⟨gb160, 7, none⟩ = some (.int .i64 ((rd_T26 l0 t158).f7)) := (blk_cell BK160.out 7).trans rfl; have hfz87_0 := blk_frozen BK160.out 0; have hfz87_1 := blk_frozen BK160.out 1; have hfz87_2 := blk_frozen BK160.out 2; have hfz87_3 := blk_frozen BK160.out 3; have hfz87_4 := blk_frozen BK160.out 4; have hfz87_5 := blk_frozen BK160.out 5; have hfz87_6 := blk_frozen BK160.out 6; have hfz87_7 := blk_frozen BK160.out 7; have hcz88_0 : w86.cell? ⟨gb155, 0, none⟩ = some (.int .i64 0) := (blk_cell BK155.out 0).trans rfl; have hcz88_1 : w86.cell? ⟨gb155, 1, none⟩ = some (.string (⟨#[]⟩ : ByteArray)) := (blk_cell BK155.out 1).trans rfl; have hfz88_0 := blk_frozen BK155.out 0; have hfz88_1 := blk_frozen BK155.out 1))
                   refine bodyPost_ret (results_ct rfl _ _ gb155 44 #[.int .i64 ((rd_T26 l0 t158).f7), .string (((x12_31 ++ x155001_39) ++ ((⟨#[58]⟩ : ByteArray) ++ t161)) ++ t162)] (0, 0) _ rfl (by (with_reducible repeat (first | refine blk_drewN ?_ _ | refine blk_drew ?_ | refine blk_alloc ?_ _)); refine blk_put (cs := #[.int .i64 ((rd_T26 l0 t158).f7), .string (⟨#[]⟩ : ByteArray)]) ?_ 1 _ rfl; (with_reducible repeat (first | refine blk_drewN ?_ _ | refine blk_drew ?_ | refine blk_alloc ?_ _)); refine blk_put (cs := #[.int .i64 0, .string (⟨#[]⟩ : ByteArray)]) ?_ 0 _ rfl; (with_reducible repeat (first | refine blk_drewN ?_ _ | refine blk_drew ?_ | refine blk_alloc ?_ _)); exact BK155.out) Tryz.underlying44 rfl kr_) rfl ?_
                   exact ⟨fi_, bel_ HB.out⟩
                  ·rw [if_neg c74] at H
                   exact absurd H (by simp)
                 ·rw [if_neg c73] at H
                  have c73b0 : (t163 == 0) = false := beq_eq_false_iff_ne.mpr c73
                  have c73b1 : (t163 != 0) = true := bne_iff_ne.mpr c73
                  simp only [Option.some.injEq, Prod.mk.injEq] at H
                  obtain ⟨rfl, rfl, rfl⟩ := H
                  have hnb89 := NB160_153.out
                  have hnc89 := NB153_160.out
                  have hnb90 := NB160_154.out
                  have hnc90 := NB154_160.out
                  have hnb91 := NB160_155.out
                  have hnc91 := NB155_160.out
                  have hcz92_0 : wc.cell? ⟨gb160, 0, none⟩ = some (.int .i64 ((rd_T26 l0 t158).f0)) := (blk_cell BK160.out 0).trans rfl
                  have hcz92_1 : wc.cell? ⟨gb160, 1, none⟩ = some (.string ((rd_T26 l0 t158).f1)) := (blk_cell BK160.out 1).trans rfl
                  have hcz92_2 : wc.cell? ⟨gb160, 2, none⟩ = some (.string ((rd_T26 l0 t158).f2)) := (blk_cell BK160.out 2).trans rfl
                  have hcz92_3 : wc.cell? ⟨gb160, 3, none⟩ = some (.string ((rd_T26 l0 t158).f3)) := (blk_cell BK160.out 3).trans rfl
                  have hcz92_4 : wc.cell? ⟨gb160, 4, none⟩ = some (.int .i64 ((rd_T26 l0 t158).f4)) := (blk_cell BK160.out 4).trans rfl
                  have hcz92_5 : wc.cell? ⟨gb160, 5, none⟩ = some (.string ((rd_T26 l0 t158).f5)) := (blk_cell BK160.out 5).trans rfl
                  have hcz92_6 : wc.cell? ⟨gb160, 6, none⟩ = some (.bool ((rd_T26 l0 t158).f6)) := (blk_cell BK160.out 6).trans rfl
                  have hcz92_7 : wc.cell? ⟨gb160, 7, none⟩ = some (.int .i64 ((rd_T26 l0 t158).f7)) := (blk_cell BK160.out 7).trans rfl
                  have hfz92_0 := blk_frozen BK160.out 0
                  have hfz92_1 := blk_frozen BK160.out 1
                  have hfz92_2 := blk_frozen BK160.out 2
                  have hfz92_3 := blk_frozen BK160.out 3
                  have hfz92_4 := blk_frozen BK160.out 4
                  have hfz92_5 := blk_frozen BK160.out 5
                  have hfz92_6 := blk_frozen BK160.out 6
                  have hfz92_7 := blk_frozen BK160.out 7
                  go_wp2_with (first | ((with_reducible refine gate_callee (f := 47) rfl ?_); refine goesL_ (some 59) rfl rfl Tryz.func47 kr_ rfl #[.int .i64 ((rd_T26 l0 t158).f4)] rfl rl_ ?_; (with_reducible refine (strconv_Itoa_47.calls ((rd_T26 l0 t158).f4) t161 _ (gm_ HGL.out (bel_ HB.out)) A69.out).mono ?_); rintro e w93 ⟨rfl, hb⟩; refine ⟨_, rfl, ?_⟩; have n0_ := am_ (blk_below (g := gb153) (o := .cells #[.int .i64 a1_0, .string a1_1] 30 (0, 0)) (blk_ BK153.out) hb); have n1_ := am_ (blk_below (g := gb154) (o := .cells #[.string a2_0, .string x155001_39, .string a2_2, .slice A2_3 l2_3.length c2_3, .slice A2_4 l2_4.length c2_4] 33 (0, 0)) (blk_ BK154.out) hb); have n2_ := am_ (blk_below (g := gb155) (o := .cells #[.int .i64 0, .string (⟨#[]⟩ : ByteArray)] 44 (0, 0)) (blk_ BK155.out) hb); have n3_ := am_ (blk_below (g := gb160) (o := .cells #[.int .i64 ((rd_T26 l0 t158).f0), .string ((rd_T26 l0 t158).f1), .string ((rd_T26 l0 t158).f2), .string ((rd_T26 l0 t158).f3), .int .i64 ((rd_T26 l0 t158).f4), .string ((rd_T26 l0 t158).f5), .bool ((rd_T26 l0 t158).f6), .int .i64 ((rd_T26 l0 t158).f7)] 26 (0, 0)) (blk_ BK160.out) hb); have n4_ := am_ (below_step (bel_ HB.out) hb); clear BK153 BK154 BK155 BK160 HB; have BK153 := n0_; have BK154 := n1_; have BK155 := n2_; have BK160 := n3_; have HB := n4_; clear n0_ n1_ n2_ n3_ n4_; (try clear hb); (try clear hb2); (try clear hk); (try clear hi); have hcz94_0 : w93.cell? ⟨gb160, 0, none⟩ = some (.int .i64 ((rd_T26 l0 t158).f0)) := (blk_cell BK160.out 0).trans rfl; have hcz94_1 : w93.cell? ⟨gb160, 1, none⟩ = some (.string ((rd_T26 l0 t158).f1)) := (blk_cell BK160.out 1).trans rfl; have hcz94_2 : w93.cell? ⟨gb160, 2, none⟩ = some (.string ((rd_T26 l0 t158).f2)) := (blk_cell BK160.out 2).trans rfl; have hcz94_3 : w93.cell? ⟨gb160, 3, none⟩ = some (.string ((rd_T26 l0 t158).f3)) := (blk_cell BK160.out 3).trans rfl; have hcz94_4 : w93.cell? ⟨gb160, 4, none⟩ = some (.int .i64 ((rd_T26 l0 t158).f4)) := (blk_cell BK160.out 4).trans rfl; have hcz94_5 : w93.cell? ⟨gb160, 5, none⟩ = some (.string ((rd_T26 l0 t158).f5)) := (blk_cell BK160.out 5).trans rfl; have hcz94_6 : w93.cell? ⟨gb160, 6, none⟩ = some (.bool ((rd_T26 l0 t158).f6)) := (blk_cell BK160.out 6).trans rfl; have hcz94_7 : w93.cell? ⟨gb160, 7, none⟩ = some (.int .i64 ((rd_T26 l0 t158).f7)) := (blk_cell BK160.out 7).trans rfl; have hfz94_0 := blk_frozen BK160.out 0; have hfz94_1 := blk_frozen BK160.out 1; have hfz94_2 := blk_frozen BK160.out 2; have hfz94_3 := blk_frozen BK160.out 3; have hfz94_4 := blk_frozen BK160.out 4; have hfz94_5 := blk_frozen BK160.out 5; have hfz94_6 := blk_frozen BK160.out 6; have hfz94_7 := blk_frozen BK160.out 7; have hnb95 := NB153_154.out; have hnc95 := NB154_153.out; have hnb96 := NB153_155.out; have hnc96 := NB155_153.out; have hcz97_0 : w93.cell? ⟨gb153, 0, none⟩ = some (.int .i64 a1_0) := (blk_cell BK153.out 0).trans rfl; have hcz97_1 : w93.cell? ⟨gb153, 1, none⟩ = some (.string a1_1) := (blk_cell BK153.out 1).trans rfl; have hfz97_0 := blk_frozen BK153.out 0; have hfz97_1 := blk_frozen BK153.out 1; have hnb98 := NB154_155.out; have hnc98 := NB155_154.out; have hcz99_0 : w93.cell? ⟨gb154, 0, none⟩ = some (.string a2_0) := (blk_cell BK154.out 0).trans rfl; have hcz99_1 : w93.cell? ⟨gb154, 1, none⟩ = some (.string x155001_39) := (blk_cell BK154.out 1).trans rfl; have hcz99_2 : w93.cell? ⟨gb154, 2, none⟩ = some (.string a2_2) := (blk_cell BK154.out 2).trans rfl; have hcz99_3 : w93.cell? ⟨gb154, 3, none⟩ = some (.slice A2_3 l2_3.length c2_3) := (blk_cell BK154.out 3).trans rfl; have hcz99_4 : w93.cell? ⟨gb154, 4, none⟩ = some (.slice A2_4 l2_4.length c2_4) := (blk_cell BK154.out 4).trans rfl; have hfz99_0 := blk_frozen BK154.out 0; have hfz99_1 := blk_frozen BK154.out 1; have hfz99_2 := blk_frozen BK154.out 2; have hfz99_3 := blk_frozen BK154.out 3; have hfz99_4 := blk_frozen BK154.out 4) | ((with_reducible refine gate_callee (f := 48) rfl ?_); refine goesL_ (some 67) rfl rfl Tryz.func48 kr_ rfl #[.agg #[.int .i64 ((rd_T26 l0 t158).f0), .string ((rd_T26 l0 t158).f1), .string ((rd_T26 l0 t158).f2), .string ((rd_T26 l0 t158).f3), .int .i64 ((rd_T26 l0 t158).f4), .string ((rd_T26 l0 t158).f5), .bool ((rd_T26 l0 t158).f6), .int .i64 ((rd_T26 l0 t158).f7)], .agg #[.int .i64 a1_0, .string a1_1], .string a2_2] rfl rl_ ?_; (with_reducible refine (filter_becomes.calls kj53 ((rd_T26 l0 t158).f0) ((rd_T26 l0 t158).f1) ((rd_T26 l0 t158).f2) ((rd_T26 l0 t158).f3) ((rd_T26 l0 t158).f4) ((rd_T26 l0 t158).f5) ((rd_T26 l0 t158).f6) ((rd_T26 l0 t158).f7) a1_0 a1_1 a2_2 t162 t163 _ A72.out).mono ?_); rintro e w100 ⟨rfl, hb⟩; refine ⟨_, rfl, ?_⟩; have n0_ := am_ (blk_below (g := gb153) (o := .cells #[.int .i64 a1_0, .string a1_1] 30 (0, 0)) (blk_ BK153.out) hb); have n1_ := am_ (blk_below (g := gb154) (o := .cells #[.string a2_0, .string x155001_39, .string a2_2, .slice A2_3 l2_3.length c2_3, .slice A2_4 l2_4.length c2_4] 33 (0, 0)) (blk_ BK154.out) hb); have n2_ := am_ (blk_below (g := gb155) (o := .cells #[.int .i64 0, .string (⟨#[]⟩ : ByteArray)] 44 (0, 0)) (blk_ BK155.out) hb); have n3_ := am_ (blk_below (g := gb160) (o := .cells #[.int .i64 ((rd_T26 l0 t158).f0), .string ((rd_T26 l0 t158).f1), .string ((rd_T26 l0 t158).f2), .string ((rd_T26 l0 t158).f3), .int .i64 ((rd_T26 l0 t158).f4), .string ((rd_T26 l0 t158).f5), .bool ((rd_T26 l0 t158).f6), .int .i64 ((rd_T26 l0 t158).f7)] 26 (0, 0)) (blk_ BK160.out) hb); have n4_ := am_ (below_step (bel_ HB.out) hb); clear BK153 BK154 BK155 BK160 HB; have BK153 := n0_; have BK154 := n1_; have BK155 := n2_; have BK160 := n3_; have HB := n4_; clear n0_ n1_ n2_ n3_ n4_; (try clear hb); (try clear hb2); (try clear hk); (try clear hi); have hcz101_0 : w100.cell? ⟨gb155, 0, none⟩ = some (.int .i64 0) := (blk_cell BK155.out 0).trans rfl; have hcz101_1 : w100.cell? ⟨gb155, 1, none⟩ = some (.string (⟨#[]⟩ : ByteArray)) := (blk_cell BK155.out 1).trans rfl; have hfz101_0 := blk_frozen BK155.out 0; have hfz101_1 := blk_frozen BK155.out 1))
                  refine bodyPost_ret (results_ct rfl _ _ gb155 44 #[.int .i64 0, .string (⟨#[]⟩ : ByteArray)] (0, 0) _ rfl (by (with_reducible repeat (first | refine blk_drewN ?_ _ | refine blk_drew ?_ | refine blk_alloc ?_ _)); refine blk_put (cs := #[.int .i64 0, .string (⟨#[]⟩ : ByteArray)]) ?_ 1 _ rfl; (with_reducible repeat (first | refine blk_drewN ?_ _ | refine blk_drew ?_ | refine blk_alloc ?_ _)); refine blk_put (cs := #[.int .i64 0, .string (⟨#[]⟩ : ByteArray)]) ?_ 0 _ rfl; (with_reducible repeat (first | refine blk_drewN ?_ _ | refine blk_drew ?_ | refine blk_alloc ?_ _)); exact BK155.out) Tryz.underlying44 rfl kr_) rfl ?_
                  exact ⟨fi_, bel_ HB.out⟩
                ·rw [if_neg c71] at H
                 exact absurd H (by simp)
               ·rw [if_neg c70] at H
                exact absurd H (by simp)
              ·replace c68 := Bool.eq_false_iff.mpr c68
               subst c68
               have H1 : ((filter_becomes.f kj53 ((rd_T26 l0 t158).f0) ((rd_T26 l0 t158).f1) ((rd_T26 l0 t158).f2) ((rd_T26 l0 t158).f3) ((rd_T26 l0 t158).f4) ((rd_T26 l0 t158).f5) ((rd_T26 l0 t158).f6) ((rd_T26 l0 t158).f7) a1_0 a1_1 a2_2).bind fun bt164 => (if bt164.2 = 0 then (if (x12_31 ++ x155001_39).size + bt164.1.size ≤ 9223372036854775807 then (some (((rd_T26 l0 t158).f7), (x12_31 ++ x155001_39) ++ bt164.1, 0)) else (none)) else (some (0, (⟨#[]⟩ : ByteArray), bt164.2)))) = some (r1, r2, r3) := by rw [if_neg (show ¬ (false = true) by decide)] at H; exact H
               clear H
               have H := H1
               clear H1
               replace H := Option.bind_eq_some_iff.mp H
               obtain ⟨⟨t164, t165⟩, A1020, H⟩ := H
               replace H : (if t165 = 0 then (if (x12_31 ++ x155001_39).size + t164.size ≤ 9223372036854775807 then (some (((rd_T26 l0 t158).f7), (x12_31 ++ x155001_39) ++ t164, 0)) else (none)) else (some (0, (⟨#[]⟩ : ByteArray), t165))) = some (r1, r2, r3) := H
               have A102 := Aside0.mk A1020
               clear A1020
               by_cases c103 : t165 = 0
               ·rw [if_pos c103] at H
                have c103b0 : (t165 == 0) = true := beq_iff_eq.mpr c103
                have c103b1 : (t165 != 0) = false := bne_eq_false_iff_eq.mpr c103
                clear c103
                by_cases c104 : (x12_31 ++ x155001_39).size + t164.size ≤ 9223372036854775807
                ·rw [if_pos c104] at H
                 have c104b0 := eq_true c104
                 have c104b1 : decide ((x12_31 ++ x155001_39).size + t164.size ≤ 9223372036854775807) = true := decide_eq_true c104
                 try have c104b2 : (9223372036854775807 < (x12_31 ++ x155001_39).size + t164.size) = False := eq_false (Nat.not_lt.2 c104)
                 (try have c104z : (9223372036854775807 < x12_31.size + x155001_39.size + t164.size) = False := eq_false (Nat.not_lt.2 (by have q_ := c104; simp only [ByteArray.size_append] at q_; exact q_)))
                 simp only [Option.some.injEq, Prod.mk.injEq] at H
                 obtain ⟨rfl, rfl, rfl⟩ := H
                 have hnb105 := NB160_153.out
                 have hnc105 := NB153_160.out
                 have hnb106 := NB160_154.out
                 have hnc106 := NB154_160.out
                 have hnb107 := NB160_155.out
                 have hnc107 := NB155_160.out
                 have hcz108_0 : wc.cell? ⟨gb160, 0, none⟩ = some (.int .i64 ((rd_T26 l0 t158).f0)) := (blk_cell BK160.out 0).trans rfl
                 have hcz108_1 : wc.cell? ⟨gb160, 1, none⟩ = some (.string ((rd_T26 l0 t158).f1)) := (blk_cell BK160.out 1).trans rfl
                 have hcz108_2 : wc.cell? ⟨gb160, 2, none⟩ = some (.string ((rd_T26 l0 t158).f2)) := (blk_cell BK160.out 2).trans rfl
                 have hcz108_3 : wc.cell? ⟨gb160, 3, none⟩ = some (.string ((rd_T26 l0 t158).f3)) := (blk_cell BK160.out 3).trans rfl
                 have hcz108_4 : wc.cell? ⟨gb160, 4, none⟩ = some (.int .i64 ((rd_T26 l0 t158).f4)) := (blk_cell BK160.out 4).trans rfl
                 have hcz108_5 : wc.cell? ⟨gb160, 5, none⟩ = some (.string ((rd_T26 l0 t158).f5)) := (blk_cell BK160.out 5).trans rfl
                 have hcz108_6 : wc.cell? ⟨gb160, 6, none⟩ = some (.bool ((rd_T26 l0 t158).f6)) := (blk_cell BK160.out 6).trans rfl
                 have hcz108_7 : wc.cell? ⟨gb160, 7, none⟩ = some (.int .i64 ((rd_T26 l0 t158).f7)) := (blk_cell BK160.out 7).trans rfl
                 have hfz108_0 := blk_frozen BK160.out 0
                 have hfz108_1 := blk_frozen BK160.out 1
                 have hfz108_2 := blk_frozen BK160.out 2
                 have hfz108_3 := blk_frozen BK160.out 3
                 have hfz108_4 := blk_frozen BK160.out 4
                 have hfz108_5 := blk_frozen BK160.out 5
                 have hfz108_6 := blk_frozen BK160.out 6
                 have hfz108_7 := blk_frozen BK160.out 7
                 have hnb109 := NB153_154.out
                 have hnc109 := NB154_153.out
                 have hnb110 := NB153_155.out
                 have hnc110 := NB155_153.out
                 have hcz111_0 : wc.cell? ⟨gb153, 0, none⟩ = some (.int .i64 a1_0) := (blk_cell BK153.out 0).trans rfl
                 have hcz111_1 : wc.cell? ⟨gb153, 1, none⟩ = some (.string a1_1) := (blk_cell BK153.out 1).trans rfl
                 have hfz111_0 := blk_frozen BK153.out 0
                 have hfz111_1 := blk_frozen BK153.out 1
                 have hnb112 := NB154_155.out
                 have hnc112 := NB155_154.out
                 have hcz113_0 : wc.cell? ⟨gb154, 0, none⟩ = some (.string a2_0) := (blk_cell BK154.out 0).trans rfl
                 have hcz113_1 : wc.cell? ⟨gb154, 1, none⟩ = some (.string x155001_39) := (blk_cell BK154.out 1).trans rfl
                 have hcz113_2 : wc.cell? ⟨gb154, 2, none⟩ = some (.string a2_2) := (blk_cell BK154.out 2).trans rfl
                 have hcz113_3 : wc.cell? ⟨gb154, 3, none⟩ = some (.slice A2_3 l2_3.length c2_3) := (blk_cell BK154.out 3).trans rfl
                 have hcz113_4 : wc.cell? ⟨gb154, 4, none⟩ = some (.slice A2_4 l2_4.length c2_4) := (blk_cell BK154.out 4).trans rfl
                 have hfz113_0 := blk_frozen BK154.out 0
                 have hfz113_1 := blk_frozen BK154.out 1
                 have hfz113_2 := blk_frozen BK154.out 2
                 have hfz113_3 := blk_frozen BK154.out 3
                 have hfz113_4 := blk_frozen BK154.out 4
                 go_wp2_with (first | ((with_reducible refine gate_callee (f := 48) rfl ?_); refine goesL_ (some 67) rfl rfl Tryz.func48 kr_ rfl #[.agg #[.int .i64 ((rd_T26 l0 t158).f0), .string ((rd_T26 l0 t158).f1), .string ((rd_T26 l0 t158).f2), .string ((rd_T26 l0 t158).f3), .int .i64 ((rd_T26 l0 t158).f4), .string ((rd_T26 l0 t158).f5), .bool ((rd_T26 l0 t158).f6), .int .i64 ((rd_T26 l0 t158).f7)], .agg #[.int .i64 a1_0, .string a1_1], .string a2_2] rfl rl_ ?_; (with_reducible refine (filter_becomes.calls kj53 ((rd_T26 l0 t158).f0) ((rd_T26 l0 t158).f1) ((rd_T26 l0 t158).f2) ((rd_T26 l0 t158).f3) ((rd_T26 l0 t158).f4) ((rd_T26 l0 t158).f5) ((rd_T26 l0 t158).f6) ((rd_T26 l0 t158).f7) a1_0 a1_1 a2_2 t164 t165 _ A102.out).mono ?_); rintro e w114 ⟨rfl, hb⟩; refine ⟨_, rfl, ?_⟩; have n0_ := am_ (blk_below (g := gb153) (o := .cells #[.int .i64 a1_0, .string a1_1] 30 (0, 0)) (blk_ BK153.out) hb); have n1_ := am_ (blk_below (g := gb154) (o := .cells #[.string a2_0, .string x155001_39, .string a2_2, .slice A2_3 l2_3.length c2_3, .slice A2_4 l2_4.length c2_4] 33 (0, 0)) (blk_ BK154.out) hb); have n2_ := am_ (blk_below (g := gb155) (o := .cells #[.int .i64 0, .string (⟨#[]⟩ : ByteArray)] 44 (0, 0)) (blk_ BK155.out) hb); have n3_ := am_ (blk_below (g := gb160) (o := .cells #[.int .i64 ((rd_T26 l0 t158).f0), .string ((rd_T26 l0 t158).f1), .string ((rd_T26 l0 t158).f2), .string ((rd_T26 l0 t158).f3), .int .i64 ((rd_T26 l0 t158).f4), .string ((rd_T26 l0 t158).f5), .bool ((rd_T26 l0 t158).f6), .int .i64 ((rd_T26 l0 t158).f7)] 26 (0, 0)) (blk_ BK160.out) hb); have n4_ := am_ (below_step (bel_ HB.out) hb); clear BK153 BK154 BK155 BK160 HB; have BK153 := n0_; have BK154 := n1_; have BK155 := n2_; have BK160 := n3_; have HB := n4_; clear n0_ n1_ n2_ n3_ n4_; (try clear hb); (try clear hb2); (try clear hk); (try clear hi); have hcz115_0 : w114.cell? ⟨gb160, 0, none⟩ = some (.int .i64 ((rd_T26 l0 t158).f0)) := (blk_cell BK160.out 0).trans rfl; have hcz115_1 : w114.cell? ⟨gb160, 1, none⟩ = some (.string ((rd_T26 l0 t158).f1)) := (blk_cell BK160.out 1).trans rfl; have hcz115_2 : w114.cell? ⟨gb160, 2, none⟩ = some (.string ((rd_T26 l0 t158).f2)) := (blk_cell BK160.out 2).trans rfl; have hcz115_3 : w114.cell? ⟨gb160, 3, none⟩ = some (.string ((rd_T26 l0 t158).f3)) := (blk_cell BK160.out 3).trans rfl; have hcz115_4 : w114.cell? ⟨gb160, 4, none⟩ = some (.int .i64 ((rd_T26 l0 t158).f4)) := (blk_cell BK160.out 4).trans rfl; have hcz115_5 : w114.cell? ⟨gb160, 5, none⟩ = some (.string ((rd_T26 l0 t158).f5)) := (blk_cell BK160.out 5).trans rfl; have hcz115_6 : w114.cell? ⟨gb160, 6, none⟩ = some (.bool ((rd_T26 l0 t158).f6)) := (blk_cell BK160.out 6).trans rfl; have hcz115_7 : w114.cell? ⟨gb160, 7, none⟩ = some (.int .i64 ((rd_T26 l0 t158).f7)) := (blk_cell BK160.out 7).trans rfl; have hfz115_0 := blk_frozen BK160.out 0; have hfz115_1 := blk_frozen BK160.out 1; have hfz115_2 := blk_frozen BK160.out 2; have hfz115_3 := blk_frozen BK160.out 3; have hfz115_4 := blk_frozen BK160.out 4; have hfz115_5 := blk_frozen BK160.out 5; have hfz115_6 := blk_frozen BK160.out 6; have hfz115_7 := blk_frozen BK160.out 7; have hcz116_0 : w114.cell? ⟨gb155, 0, none⟩ = some (.int .i64 0) := (blk_cell BK155.out 0).trans rfl; have hcz116_1 : w114.cell? ⟨gb155, 1, none⟩ = some (.string (⟨#[]⟩ : ByteArray)) := (blk_cell BK155.out 1).trans rfl; have hfz116_0 := blk_frozen BK155.out 0; have hfz116_1 := blk_frozen BK155.out 1))
                 refine bodyPost_ret (results_ct rfl _ _ gb155 44 #[.int .i64 ((rd_T26 l0 t158).f7), .string ((x12_31 ++ x155001_39) ++ t164)] (0, 0) _ rfl (by (with_reducible repeat (first | refine blk_drewN ?_ _ | refine blk_drew ?_ | refine blk_alloc ?_ _)); refine blk_put (cs := #[.int .i64 ((rd_T26 l0 t158).f7), .string (⟨#[]⟩ : ByteArray)]) ?_ 1 _ rfl; (with_reducible repeat (first | refine blk_drewN ?_ _ | refine blk_drew ?_ | refine blk_alloc ?_ _)); refine blk_put (cs := #[.int .i64 0, .string (⟨#[]⟩ : ByteArray)]) ?_ 0 _ rfl; (with_reducible repeat (first | refine blk_drewN ?_ _ | refine blk_drew ?_ | refine blk_alloc ?_ _)); exact BK155.out) Tryz.underlying44 rfl kr_) rfl ?_
                 exact ⟨fi_, bel_ HB.out⟩
                ·rw [if_neg c104] at H
                 exact absurd H (by simp)
               ·rw [if_neg c103] at H
                have c103b0 : (t165 == 0) = false := beq_eq_false_iff_ne.mpr c103
                have c103b1 : (t165 != 0) = true := bne_iff_ne.mpr c103
                simp only [Option.some.injEq, Prod.mk.injEq] at H
                obtain ⟨rfl, rfl, rfl⟩ := H
                have hnb117 := NB160_153.out
                have hnc117 := NB153_160.out
                have hnb118 := NB160_154.out
                have hnc118 := NB154_160.out
                have hnb119 := NB160_155.out
                have hnc119 := NB155_160.out
                have hcz120_0 : wc.cell? ⟨gb160, 0, none⟩ = some (.int .i64 ((rd_T26 l0 t158).f0)) := (blk_cell BK160.out 0).trans rfl
                have hcz120_1 : wc.cell? ⟨gb160, 1, none⟩ = some (.string ((rd_T26 l0 t158).f1)) := (blk_cell BK160.out 1).trans rfl
                have hcz120_2 : wc.cell? ⟨gb160, 2, none⟩ = some (.string ((rd_T26 l0 t158).f2)) := (blk_cell BK160.out 2).trans rfl
                have hcz120_3 : wc.cell? ⟨gb160, 3, none⟩ = some (.string ((rd_T26 l0 t158).f3)) := (blk_cell BK160.out 3).trans rfl
                have hcz120_4 : wc.cell? ⟨gb160, 4, none⟩ = some (.int .i64 ((rd_T26 l0 t158).f4)) := (blk_cell BK160.out 4).trans rfl
                have hcz120_5 : wc.cell? ⟨gb160, 5, none⟩ = some (.string ((rd_T26 l0 t158).f5)) := (blk_cell BK160.out 5).trans rfl
                have hcz120_6 : wc.cell? ⟨gb160, 6, none⟩ = some (.bool ((rd_T26 l0 t158).f6)) := (blk_cell BK160.out 6).trans rfl
                have hcz120_7 : wc.cell? ⟨gb160, 7, none⟩ = some (.int .i64 ((rd_T26 l0 t158).f7)) := (blk_cell BK160.out 7).trans rfl
                have hfz120_0 := blk_frozen BK160.out 0
                have hfz120_1 := blk_frozen BK160.out 1
                have hfz120_2 := blk_frozen BK160.out 2
                have hfz120_3 := blk_frozen BK160.out 3
                have hfz120_4 := blk_frozen BK160.out 4
                have hfz120_5 := blk_frozen BK160.out 5
                have hfz120_6 := blk_frozen BK160.out 6
                have hfz120_7 := blk_frozen BK160.out 7
                have hnb121 := NB153_154.out
                have hnc121 := NB154_153.out
                have hnb122 := NB153_155.out
                have hnc122 := NB155_153.out
                have hcz123_0 : wc.cell? ⟨gb153, 0, none⟩ = some (.int .i64 a1_0) := (blk_cell BK153.out 0).trans rfl
                have hcz123_1 : wc.cell? ⟨gb153, 1, none⟩ = some (.string a1_1) := (blk_cell BK153.out 1).trans rfl
                have hfz123_0 := blk_frozen BK153.out 0
                have hfz123_1 := blk_frozen BK153.out 1
                have hnb124 := NB154_155.out
                have hnc124 := NB155_154.out
                have hcz125_0 : wc.cell? ⟨gb154, 0, none⟩ = some (.string a2_0) := (blk_cell BK154.out 0).trans rfl
                have hcz125_1 : wc.cell? ⟨gb154, 1, none⟩ = some (.string x155001_39) := (blk_cell BK154.out 1).trans rfl
                have hcz125_2 : wc.cell? ⟨gb154, 2, none⟩ = some (.string a2_2) := (blk_cell BK154.out 2).trans rfl
                have hcz125_3 : wc.cell? ⟨gb154, 3, none⟩ = some (.slice A2_3 l2_3.length c2_3) := (blk_cell BK154.out 3).trans rfl
                have hcz125_4 : wc.cell? ⟨gb154, 4, none⟩ = some (.slice A2_4 l2_4.length c2_4) := (blk_cell BK154.out 4).trans rfl
                have hfz125_0 := blk_frozen BK154.out 0
                have hfz125_1 := blk_frozen BK154.out 1
                have hfz125_2 := blk_frozen BK154.out 2
                have hfz125_3 := blk_frozen BK154.out 3
                have hfz125_4 := blk_frozen BK154.out 4
                go_wp2_with (first | ((with_reducible refine gate_callee (f := 48) rfl ?_); refine goesL_ (some 67) rfl rfl Tryz.func48 kr_ rfl #[.agg #[.int .i64 ((rd_T26 l0 t158).f0), .string ((rd_T26 l0 t158).f1), .string ((rd_T26 l0 t158).f2), .string ((rd_T26 l0 t158).f3), .int .i64 ((rd_T26 l0 t158).f4), .string ((rd_T26 l0 t158).f5), .bool ((rd_T26 l0 t158).f6), .int .i64 ((rd_T26 l0 t158).f7)], .agg #[.int .i64 a1_0, .string a1_1], .string a2_2] rfl rl_ ?_; (with_reducible refine (filter_becomes.calls kj53 ((rd_T26 l0 t158).f0) ((rd_T26 l0 t158).f1) ((rd_T26 l0 t158).f2) ((rd_T26 l0 t158).f3) ((rd_T26 l0 t158).f4) ((rd_T26 l0 t158).f5) ((rd_T26 l0 t158).f6) ((rd_T26 l0 t158).f7) a1_0 a1_1 a2_2 t164 t165 _ A102.out).mono ?_); rintro e w126 ⟨rfl, hb⟩; refine ⟨_, rfl, ?_⟩; have n0_ := am_ (blk_below (g := gb153) (o := .cells #[.int .i64 a1_0, .string a1_1] 30 (0, 0)) (blk_ BK153.out) hb); have n1_ := am_ (blk_below (g := gb154) (o := .cells #[.string a2_0, .string x155001_39, .string a2_2, .slice A2_3 l2_3.length c2_3, .slice A2_4 l2_4.length c2_4] 33 (0, 0)) (blk_ BK154.out) hb); have n2_ := am_ (blk_below (g := gb155) (o := .cells #[.int .i64 0, .string (⟨#[]⟩ : ByteArray)] 44 (0, 0)) (blk_ BK155.out) hb); have n3_ := am_ (blk_below (g := gb160) (o := .cells #[.int .i64 ((rd_T26 l0 t158).f0), .string ((rd_T26 l0 t158).f1), .string ((rd_T26 l0 t158).f2), .string ((rd_T26 l0 t158).f3), .int .i64 ((rd_T26 l0 t158).f4), .string ((rd_T26 l0 t158).f5), .bool ((rd_T26 l0 t158).f6), .int .i64 ((rd_T26 l0 t158).f7)] 26 (0, 0)) (blk_ BK160.out) hb); have n4_ := am_ (below_step (bel_ HB.out) hb); clear BK153 BK154 BK155 BK160 HB; have BK153 := n0_; have BK154 := n1_; have BK155 := n2_; have BK160 := n3_; have HB := n4_; clear n0_ n1_ n2_ n3_ n4_; (try clear hb); (try clear hb2); (try clear hk); (try clear hi); have hcz127_0 : w126.cell? ⟨gb155, 0, none⟩ = some (.int .i64 0) := (blk_cell BK155.out 0).trans rfl; have hcz127_1 : w126.cell? ⟨gb155, 1, none⟩ = some (.string (⟨#[]⟩ : ByteArray)) := (blk_cell BK155.out 1).trans rfl; have hfz127_0 := blk_frozen BK155.out 0; have hfz127_1 := blk_frozen BK155.out 1))
                refine bodyPost_ret (results_ct rfl _ _ gb155 44 #[.int .i64 0, .string (⟨#[]⟩ : ByteArray)] (0, 0) _ rfl (by (with_reducible repeat (first | refine blk_drewN ?_ _ | refine blk_drew ?_ | refine blk_alloc ?_ _)); refine blk_put (cs := #[.int .i64 0, .string (⟨#[]⟩ : ByteArray)]) ?_ 1 _ rfl; (with_reducible repeat (first | refine blk_drewN ?_ _ | refine blk_drew ?_ | refine blk_alloc ?_ _)); refine blk_put (cs := #[.int .i64 0, .string (⟨#[]⟩ : ByteArray)]) ?_ 0 _ rfl; (with_reducible repeat (first | refine blk_drewN ?_ _ | refine blk_drew ?_ | refine blk_alloc ?_ _)); exact BK155.out) Tryz.underlying44 rfl kr_) rfl ?_
                exact ⟨fi_, bel_ HB.out⟩
           ·rw [if_neg c53] at H
            exact absurd H (by simp)
      ·rw [if_neg c31] at H
       exact absurd H (by simp)
     ·rw [if_neg c30] at H
      exact absurd H (by simp)

end Go.Proofs.YtfdopmjgiakcdaaGreatDoor.Q
