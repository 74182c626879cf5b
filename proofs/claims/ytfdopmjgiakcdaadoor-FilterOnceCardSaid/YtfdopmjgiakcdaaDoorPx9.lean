-- written by wip/tool/hprint.py of this repo: the kit's print, with contracts by hand joined; Lean checks it.
import Derived.Test.YtfdopmjgiakcdaaDoorPx0
import Derived.Test.YtfdopmjgiakcdaaDoorPx6
import Derived.Test.YtfdopmjgiakcdaaDoorPx7
import Derived.Test.YtfdopmjgiakcdaaDoorPx8
namespace Go.Proofs.YtfdopmjgiakcdaaDoor.P
open Go.RowKit Go.Proofs.YtfdopmjgiakcdaaDoorW.PrintWords Go.Proofs.YtfdopmjgiakcdaaDoorW.PrintLast Go.Proofs.YtfdopmjgiakcdaaDoorW.PrintMore
attribute [local go_sem] max2_int min2_int max_two min_two max_three min_three max_four min_four   -- for this text's walks alone
set_option linter.unusedVariables false
set_option linter.unusedSimpArgs false

/-! ### filter_Away: function 14 -/
mutual
def filter_Away.j0 : Nat → List (S27) → Bool → Bool → Int → ByteArray → ByteArray → ByteArray → ByteArray → List (S47) → List (S47) → Option (Int × ByteArray × Int)
 | 0, _, _, _, _, _, _, _, _, _, _ => none
 | k + 1, x0, x3, x25, x163000, x163001, x164000, x164001, x164002, x164003, x164004 => if x25 = true then (some (0, (⟨#[]⟩ : ByteArray), 1)) else ((slices_IndexFunc_with_filter_Away_1.f x0).bind fun t167 => (if t167 < 0 then (some (0, (⟨#[]⟩ : ByteArray), 3)) else (if 0 ≤ t167 then (if t167 < (x0.length : Int) then (if x3 = true then (filter_Away.j1 k (⟨#[104, 116, 116, 112, 115, 58, 47, 47]⟩ : ByteArray) 443 x163000 x163001 x164000 x164001 x164002 x164003 x164004 ((rd_T27 x0 t167).f0) ((rd_T27 x0 t167).f1) ((rd_T27 x0 t167).f2) ((rd_T27 x0 t167).f3) ((rd_T27 x0 t167).f4) ((rd_T27 x0 t167).f5) ((rd_T27 x0 t167).f6) ((rd_T27 x0 t167).f7)) else (filter_Away.j1 k (⟨#[104, 116, 116, 112, 58, 47, 47]⟩ : ByteArray) 80 x163000 x163001 x164000 x164001 x164002 x164003 x164004 ((rd_T27 x0 t167).f0) ((rd_T27 x0 t167).f1) ((rd_T27 x0 t167).f2) ((rd_T27 x0 t167).f3) ((rd_T27 x0 t167).f4) ((rd_T27 x0 t167).f5) ((rd_T27 x0 t167).f6) ((rd_T27 x0 t167).f7))) else (none)) else (none))))
def filter_Away.j1 : Nat → ByteArray → Int → Int → ByteArray → ByteArray → ByteArray → ByteArray → List (S47) → List (S47) → Int → ByteArray → ByteArray → ByteArray → Int → ByteArray → Bool → Int → Option (Int × ByteArray × Int)
 | 0, _, _, _, _, _, _, _, _, _, _, _, _, _, _, _, _, _ => none
 | k + 1, x12, x13, x163000, x163001, x164000, x164001, x164002, x164003, x164004, x170000, x170001, x170002, x170003, x170004, x170005, x170006, x170007 => if x170003.toList = ([] : List UInt8) then (filter_Away.j2 k x12 x13 x163000 x163001 x164000 x164001 x164002 x164003 x164004 x170000 x170001 x170002 x170003 x170004 x170005 x170006 x170007) else (filter_Away.j2 k x12 x13 x163000 x163001 x164000 x170003 x164002 x164003 x164004 x170000 x170001 x170002 x170003 x170004 x170005 x170006 x170007)
def filter_Away.j2 : Nat → ByteArray → Int → Int → ByteArray → ByteArray → ByteArray → ByteArray → List (S47) → List (S47) → Int → ByteArray → ByteArray → ByteArray → Int → ByteArray → Bool → Int → Option (Int × ByteArray × Int)
 | 0, _, _, _, _, _, _, _, _, _, _, _, _, _, _, _, _, _ => none
 | k + 1, x12, x13, x163000, x163001, x164000, x164001, x164002, x164003, x164004, x170000, x170001, x170002, x170003, x170004, x170005, x170006, x170007 => if x12.size + x164001.size ≤ 9223372036854775807 then (if x170004 = 0 then (filter_Away.j3 k (x12 ++ x164001) false x163000 x163001 x164000 x164001 x164002 x164003 x164004 x170000 x170001 x170002 x170003 x170004 x170005 x170006 x170007) else (filter_Away.j3 k (x12 ++ x164001) (x170004 != x13) x163000 x163001 x164000 x164001 x164002 x164003 x164004 x170000 x170001 x170002 x170003 x170004 x170005 x170006 x170007)) else (none)
def filter_Away.j3 : Nat → ByteArray → Bool → Int → ByteArray → ByteArray → ByteArray → ByteArray → List (S47) → List (S47) → Int → ByteArray → ByteArray → ByteArray → Int → ByteArray → Bool → Int → Option (Int × ByteArray × Int)
 | 0, _, _, _, _, _, _, _, _, _, _, _, _, _, _, _, _, _ => none
 | k + 1, x12, x55, x163000, x163001, x164000, x164001, x164002, x164003, x164004, x170000, x170001, x170002, x170003, x170004, x170005, x170006, x170007 => if x55 = true then ((strconv_Itoa_24.f x170004).bind fun t170 => (if 1 + t170.size ≤ 9223372036854775807 then (if x12.size + ((⟨#[58]⟩ : ByteArray) ++ t170).size ≤ 9223372036854775807 then ((filter_becomes.f k x170000 x170001 x170002 x170003 x170004 x170005 x170006 x170007 x163000 x163001 x164002).bind fun bt171 => (if bt171.2 = 0 then (if (x12 ++ ((⟨#[58]⟩ : ByteArray) ++ t170)).size + bt171.1.size ≤ 9223372036854775807 then (some (x170007, (x12 ++ ((⟨#[58]⟩ : ByteArray) ++ t170)) ++ bt171.1, 0)) else (none)) else (some (0, (⟨#[]⟩ : ByteArray), bt171.2)))) else (none)) else (none))) else ((filter_becomes.f k x170000 x170001 x170002 x170003 x170004 x170005 x170006 x170007 x163000 x163001 x164002).bind fun bt173 => (if bt173.2 = 0 then (if x12.size + bt173.1.size ≤ 9223372036854775807 then (some (x170007, x12 ++ bt173.1, 0)) else (none)) else (some (0, (⟨#[]⟩ : ByteArray), bt173.2))))
end
def filter_Away.f (k : Nat) (l0 : List (S27)) (a1_0 : Int) (a1_1 : ByteArray) (a2_0 : ByteArray) (a2_1 : ByteArray) (a2_2 : ByteArray) (l2_3 : List (S47)) (l2_4 : List (S47)) (a3 : Bool) : Option (Int × ByteArray × Int) := (filter_All.f k l0).bind fun t165 => (if t165 = true then ((path_Holds.f k a1_0 a1_1 a2_2).bind fun t166 => (filter_Away.j0 k l0 a3 (!t166) a1_0 a1_1 a2_0 a2_1 a2_2 l2_3 l2_4)) else (filter_Away.j0 k l0 a3 true a1_0 a1_1 a2_0 a2_1 a2_2 l2_3 l2_4))
theorem filter_Away.mono_l : ∀ k, (∀ y0 y1 y2 y3 y4 y5 y6 y7 y8 y9, LeO (filter_Away.j0 k y0 y1 y2 y3 y4 y5 y6 y7 y8 y9) (filter_Away.j0 (k + 1) y0 y1 y2 y3 y4 y5 y6 y7 y8 y9)) ∧ (∀ y0 y1 y2 y3 y4 y5 y6 y7 y8 y9 y10 y11 y12 y13 y14 y15 y16, LeO (filter_Away.j1 k y0 y1 y2 y3 y4 y5 y6 y7 y8 y9 y10 y11 y12 y13 y14 y15 y16) (filter_Away.j1 (k + 1) y0 y1 y2 y3 y4 y5 y6 y7 y8 y9 y10 y11 y12 y13 y14 y15 y16)) ∧ (∀ y0 y1 y2 y3 y4 y5 y6 y7 y8 y9 y10 y11 y12 y13 y14 y15 y16, LeO (filter_Away.j2 k y0 y1 y2 y3 y4 y5 y6 y7 y8 y9 y10 y11 y12 y13 y14 y15 y16) (filter_Away.j2 (k + 1) y0 y1 y2 y3 y4 y5 y6 y7 y8 y9 y10 y11 y12 y13 y14 y15 y16)) ∧ (∀ y0 y1 y2 y3 y4 y5 y6 y7 y8 y9 y10 y11 y12 y13 y14 y15 y16, LeO (filter_Away.j3 k y0 y1 y2 y3 y4 y5 y6 y7 y8 y9 y10 y11 y12 y13 y14 y15 y16) (filter_Away.j3 (k + 1) y0 y1 y2 y3 y4 y5 y6 y7 y8 y9 y10 y11 y12 y13 y14 y15 y16))
 | 0 => ⟨fun _ _ _ _ _ _ _ _ _ _ r h => by simp [filter_Away.j0] at h, fun _ _ _ _ _ _ _ _ _ _ _ _ _ _ _ _ _ r h => by simp [filter_Away.j1] at h, fun _ _ _ _ _ _ _ _ _ _ _ _ _ _ _ _ _ r h => by simp [filter_Away.j2] at h, fun _ _ _ _ _ _ _ _ _ _ _ _ _ _ _ _ _ r h => by simp [filter_Away.j3] at h⟩
 | k + 1 => by
  obtain ⟨ih0, ih1, ih2, ih3⟩ := filter_Away.mono_l k
  refine ⟨?_, ?_, ?_, ?_⟩
  ·intro y0 y1 y2 y3 y4 y5 y6 y7 y8 y9
   unfold filter_Away.j0
   repeat' first
   | (with_reducible exact ih0 _ _ _ _ _ _ _ _ _ _)
   | (with_reducible exact ih1 _ _ _ _ _ _ _ _ _ _ _ _ _ _ _ _ _)
   | (with_reducible exact ih2 _ _ _ _ _ _ _ _ _ _ _ _ _ _ _ _ _)
   | (with_reducible exact ih3 _ _ _ _ _ _ _ _ _ _ _ _ _ _ _ _ _)
   | (with_reducible exact filter_All.mono _ _)
   | (with_reducible exact filter_becomes.mono _ _ _ _ _ _ _ _ _ _ _ _)
   | (with_reducible exact path_Holds.mono _ _ _ _)
   | (with_reducible exact LeO.refl _)
   | (with_reducible exact LeO.none _)
   | (with_reducible refine LeO.ite ?_ ?_)
   | (with_reducible refine LeO.bind ?_ (fun _ => ?_))
   | exact ih0 _ _ _ _ _ _ _ _ _ _
   | exact ih1 _ _ _ _ _ _ _ _ _ _ _ _ _ _ _ _ _
   | exact ih2 _ _ _ _ _ _ _ _ _ _ _ _ _ _ _ _ _
   | exact ih3 _ _ _ _ _ _ _ _ _ _ _ _ _ _ _ _ _
   | exact filter_All.mono _ _
   | exact filter_becomes.mono _ _ _ _ _ _ _ _ _ _ _ _
   | exact path_Holds.mono _ _ _ _
   | exact LeO.none _
   | refine LeO.ite ?_ ?_
   | refine LeO.bind ?_ (fun _ => ?_)
  ·intro y0 y1 y2 y3 y4 y5 y6 y7 y8 y9 y10 y11 y12 y13 y14 y15 y16
   unfold filter_Away.j1
   repeat' first
   | (with_reducible exact ih0 _ _ _ _ _ _ _ _ _ _)
   | (with_reducible exact ih1 _ _ _ _ _ _ _ _ _ _ _ _ _ _ _ _ _)
   | (with_reducible exact ih2 _ _ _ _ _ _ _ _ _ _ _ _ _ _ _ _ _)
   | (with_reducible exact ih3 _ _ _ _ _ _ _ _ _ _ _ _ _ _ _ _ _)
   | (with_reducible exact filter_All.mono _ _)
   | (with_reducible exact filter_becomes.mono _ _ _ _ _ _ _ _ _ _ _ _)
   | (with_reducible exact path_Holds.mono _ _ _ _)
   | (with_reducible exact LeO.refl _)
   | (with_reducible exact LeO.none _)
   | (with_reducible refine LeO.ite ?_ ?_)
   | (with_reducible refine LeO.bind ?_ (fun _ => ?_))
   | exact ih0 _ _ _ _ _ _ _ _ _ _
   | exact ih1 _ _ _ _ _ _ _ _ _ _ _ _ _ _ _ _ _
   | exact ih2 _ _ _ _ _ _ _ _ _ _ _ _ _ _ _ _ _
   | exact ih3 _ _ _ _ _ _ _ _ _ _ _ _ _ _ _ _ _
   | exact filter_All.mono _ _
   | exact filter_becomes.mono _ _ _ _ _ _ _ _ _ _ _ _
   | exact path_Holds.mono _ _ _ _
   | exact LeO.none _
   | refine LeO.ite ?_ ?_
   | refine LeO.bind ?_ (fun _ => ?_)
  ·intro y0 y1 y2 y3 y4 y5 y6 y7 y8 y9 y10 y11 y12 y13 y14 y15 y16
   unfold filter_Away.j2
   repeat' first
   | (with_reducible exact ih0 _ _ _ _ _ _ _ _ _ _)
   | (with_reducible exact ih1 _ _ _ _ _ _ _ _ _ _ _ _ _ _ _ _ _)
   | (with_reducible exact ih2 _ _ _ _ _ _ _ _ _ _ _ _ _ _ _ _ _)
   | (with_reducible exact ih3 _ _ _ _ _ _ _ _ _ _ _ _ _ _ _ _ _)
   | (with_reducible exact filter_All.mono _ _)
   | (with_reducible exact filter_becomes.mono _ _ _ _ _ _ _ _ _ _ _ _)
   | (with_reducible exact path_Holds.mono _ _ _ _)
   | (with_reducible exact LeO.refl _)
   | (with_reducible exact LeO.none _)
   | (with_reducible refine LeO.ite ?_ ?_)
   | (with_reducible refine LeO.bind ?_ (fun _ => ?_))
   | exact ih0 _ _ _ _ _ _ _ _ _ _
   | exact ih1 _ _ _ _ _ _ _ _ _ _ _ _ _ _ _ _ _
   | exact ih2 _ _ _ _ _ _ _ _ _ _ _ _ _ _ _ _ _
   | exact ih3 _ _ _ _ _ _ _ _ _ _ _ _ _ _ _ _ _
   | exact filter_All.mono _ _
   | exact filter_becomes.mono _ _ _ _ _ _ _ _ _ _ _ _
   | exact path_Holds.mono _ _ _ _
   | exact LeO.none _
   | refine LeO.ite ?_ ?_
   | refine LeO.bind ?_ (fun _ => ?_)
  ·intro y0 y1 y2 y3 y4 y5 y6 y7 y8 y9 y10 y11 y12 y13 y14 y15 y16
   unfold filter_Away.j3
   repeat' first
   | (with_reducible exact ih0 _ _ _ _ _ _ _ _ _ _)
   | (with_reducible exact ih1 _ _ _ _ _ _ _ _ _ _ _ _ _ _ _ _ _)
   | (with_reducible exact ih2 _ _ _ _ _ _ _ _ _ _ _ _ _ _ _ _ _)
   | (with_reducible exact ih3 _ _ _ _ _ _ _ _ _ _ _ _ _ _ _ _ _)
   | (with_reducible exact filter_All.mono _ _)
   | (with_reducible exact filter_becomes.mono _ _ _ _ _ _ _ _ _ _ _ _)
   | (with_reducible exact path_Holds.mono _ _ _ _)
   | (with_reducible exact LeO.refl _)
   | (with_reducible exact LeO.none _)
   | (with_reducible refine LeO.ite ?_ ?_)
   | (with_reducible refine LeO.bind ?_ (fun _ => ?_))
   | exact ih0 _ _ _ _ _ _ _ _ _ _
   | exact ih1 _ _ _ _ _ _ _ _ _ _ _ _ _ _ _ _ _
   | exact ih2 _ _ _ _ _ _ _ _ _ _ _ _ _ _ _ _ _
   | exact ih3 _ _ _ _ _ _ _ _ _ _ _ _ _ _ _ _ _
   | exact filter_All.mono _ _
   | exact filter_becomes.mono _ _ _ _ _ _ _ _ _ _ _ _
   | exact path_Holds.mono _ _ _ _
   | exact LeO.none _
   | refine LeO.ite ?_ ?_
   | refine LeO.bind ?_ (fun _ => ?_)
theorem filter_Away.mono : ∀ a0 a1 a2 a3 a4 a5 a6 a7 a8 k, LeO (filter_Away.f k a0 a1 a2 a3 a4 a5 a6 a7 a8) (filter_Away.f (k + 1) a0 a1 a2 a3 a4 a5 a6 a7 a8) := by
 intro a0 a1 a2 a3 a4 a5 a6 a7 a8 k
 obtain ⟨ih0, ih1, ih2, ih3⟩ := filter_Away.mono_l k
 unfold filter_Away.f
 repeat' first
   | (with_reducible exact ih0 _ _ _ _ _ _ _ _ _ _)
   | (with_reducible exact ih1 _ _ _ _ _ _ _ _ _ _ _ _ _ _ _ _ _)
   | (with_reducible exact ih2 _ _ _ _ _ _ _ _ _ _ _ _ _ _ _ _ _)
   | (with_reducible exact ih3 _ _ _ _ _ _ _ _ _ _ _ _ _ _ _ _ _)
   | (with_reducible exact filter_All.mono _ _)
   | (with_reducible exact filter_becomes.mono _ _ _ _ _ _ _ _ _ _ _ _)
   | (with_reducible exact path_Holds.mono _ _ _ _)
   | (with_reducible exact LeO.refl _)
   | (with_reducible exact LeO.none _)
   | (with_reducible refine LeO.ite ?_ ?_)
   | (with_reducible refine LeO.bind ?_ (fun _ => ?_))
   | exact ih0 _ _ _ _ _ _ _ _ _ _
   | exact ih1 _ _ _ _ _ _ _ _ _ _ _ _ _ _ _ _ _
   | exact ih2 _ _ _ _ _ _ _ _ _ _ _ _ _ _ _ _ _
   | exact ih3 _ _ _ _ _ _ _ _ _ _ _ _ _ _ _ _ _
   | exact filter_All.mono _ _
   | exact filter_becomes.mono _ _ _ _ _ _ _ _ _ _ _ _
   | exact path_Holds.mono _ _ _ _
   | exact LeO.none _
   | refine LeO.ite ?_ ?_
   | refine LeO.bind ?_ (fun _ => ?_)
set_option maxHeartbeats 6000000 in
set_option maxRecDepth 100000 in
theorem filter_Away.calls (k : Nat) (A0 : Option Addr) (c0 : Nat) (l0 : List (S27)) (a1_0 : Int) (a1_1 : ByteArray) (a2_0 : ByteArray) (a2_1 : ByteArray) (a2_2 : ByteArray) (A2_3 : Option Addr) (c2_3 : Nat) (l2_3 : List (S47)) (A2_4 : Option Addr) (c2_4 : Nat) (l2_4 : List (S47)) (a3 : Bool) (r1 : Int) (r2 : ByteArray) (r3 : Int) (w : World) (hr0 : Kd.C k27 w A0 l0.length l0) (hc0 : l0.length ≤ c0) (hr2_3 : Kd.C k47 w A2_3 l2_3.length l2_3) (hc2_3 : l2_3.length ≤ c2_3) (hr2_4 : Kd.C k47 w A2_4 l2_4.length l2_4) (hc2_4 : l2_4.length ≤ c2_4) (hG : MaxL w) (h : filter_Away.f k l0 a1_0 a1_1 a2_0 a2_1 a2_2 l2_3 l2_4 a3 = some (r1, r2, r3)) :
  Calls Tryd.prog 14 #[.slice A0 l0.length c0, .agg #[.int .i64 a1_0, .string a1_1], .agg #[.string a2_0, .string a2_1, .string a2_2, .slice A2_3 l2_3.length c2_3, .slice A2_4 l2_4.length c2_4], .bool a3] w fun e w' => e = .returned (.tuple #[.agg #[.int .i64 r1, .string r2], .int .i64 r3]) ∧ Below w.heap.size w w' := by
 have HGL := am_ hG
 clear hG
 have hu34 := Tryd.underlying34
 have hu37 := Tryd.underlying37
 have hu42 := Tryd.underlying42
 have hu27 := Tryd.underlying27
 have HR0 := Aside0.mk hr0
 have HC0 := Aside0.mk hc0
 clear hr0 hc0
 have HR2_3 := Aside0.mk hr2_3
 have HC2_3 := Aside0.mk hc2_3
 clear hr2_3 hc2_3
 have HR2_4 := Aside0.mk hr2_4
 have HC2_4 := Aside0.mk hc2_4
 clear hr2_4 hc2_4
 have HB := am_ (Below.refl w.heap.size w)
 have H : ((filter_All.f k l0).bind fun t165 => (if t165 = true then ((path_Holds.f k a1_0 a1_1 a2_2).bind fun t166 => (filter_Away.j0 k l0 a3 (!t166) a1_0 a1_1 a2_0 a2_1 a2_2 l2_3 l2_4)) else (filter_Away.j0 k l0 a3 true a1_0 a1_1 a2_0 a2_1 a2_2 l2_3 l2_4))) = some (r1, r2, r3) := h
 clear h
 have HC5 := Aside0.mk H
 clear H
 go_enter Tryd.func14, Tryd.ntmps14
 go_upto_region 1 with (first | ((with_reducible refine gate_dst (N := 5) rfl ?_); refine box_event ?hg (N := 5) ?hd (cs := #[.int .i64 a1_0, .string a1_1]) (t := 34) ?hr ?_; (case hd => rfl); (case hg => rfl); (case hr => first | (go_simp; done) | (go_simp; rfl)); intro gb162 hg w6 hbox hb; have n0_ := am_ (below_step (bel_ HB.out) hb); have n1_ := am_ (hbox); have n2_ := am_ ((by rw [hg]; exact (below_size (bel_ HB.out)) : w.heap.size ≤ gb162)); have n3_ := am_ ((by rw [hg]; exact (below_size (bel_ HB.out)) : w.heap.size ≤ gb162)); clear HB; have HB := n0_; have BK162 := n1_; have GW162 := n2_; have GE162 := n3_; clear n0_ n1_ n2_ n3_ hb hbox hg) | ((with_reducible refine gate_dst (N := 6) rfl ?_); refine box_event ?hg (N := 6) ?hd (cs := #[.string a2_0, .string a2_1, .string a2_2, .slice A2_3 l2_3.length c2_3, .slice A2_4 l2_4.length c2_4]) (t := 37) ?hr ?_; (case hd => rfl); (case hg => rfl); (case hr => first | (go_simp; done) | (go_simp; rfl)); intro gb163 hg w7 hbox hb; have n0_ := am_ (blk_below (g := gb162) (o := .cells #[.int .i64 a1_0, .string a1_1] 34 (0, 0)) (blk_ BK162.out) hb); have n1_ := am_ (below_step (bel_ HB.out) hb); have n2_ := am_ (hbox); have n3_ := am_ ((by rw [hg]; exact (below_size (bel_ HB.out)) : w.heap.size ≤ gb163)); have n4_ := am_ ((by rw [hg]; exact (below_size (bel_ HB.out)) : w.heap.size ≤ gb163)); have n5_ := am_ ((by rw [hg]; exact Nat.ne_of_lt (blk_lt (g := gb162) (o := .cells #[.int .i64 a1_0, .string a1_1] 34 (0, 0)) (blk_ BK162.out)) : gb162 ≠ gb163)); have n6_ := am_ ((by rw [hg]; exact Nat.ne_of_gt (blk_lt (g := gb162) (o := .cells #[.int .i64 a1_0, .string a1_1] 34 (0, 0)) (blk_ BK162.out)) : gb163 ≠ gb162)); clear BK162 HB; have BK162 := n0_; have HB := n1_; have BK163 := n2_; have GW163 := n3_; have GE163 := n4_; have NB162_163 := n5_; have NB163_162 := n6_; clear n0_ n1_ n2_ n3_ n4_ n5_ n6_ hb hbox hg) | ((with_reducible refine gate_dst (N := 8) rfl ?_); refine box_event ?hg (N := 8) ?hd (cs := #[.int .i64 0, .string (⟨#[]⟩ : ByteArray)]) (t := 42) ?hr ?_; (case hd => rfl); (case hg => rfl); (case hr => first | (go_simp; done) | (go_simp; rfl)); intro gb164 hg w8 hbox hb; have n0_ := am_ (blk_below (g := gb162) (o := .cells #[.int .i64 a1_0, .string a1_1] 34 (0, 0)) (blk_ BK162.out) hb); have n1_ := am_ (blk_below (g := gb163) (o := .cells #[.string a2_0, .string a2_1, .string a2_2, .slice A2_3 l2_3.length c2_3, .slice A2_4 l2_4.length c2_4] 37 (0, 0)) (blk_ BK163.out) hb); have n2_ := am_ (below_step (bel_ HB.out) hb); have n3_ := am_ (hbox); have n4_ := am_ ((by rw [hg]; exact (below_size (bel_ HB.out)) : w.heap.size ≤ gb164)); have n5_ := am_ ((by rw [hg]; exact (below_size (bel_ HB.out)) : w.heap.size ≤ gb164)); have n6_ := am_ ((by rw [hg]; exact Nat.ne_of_lt (blk_lt (g := gb162) (o := .cells #[.int .i64 a1_0, .string a1_1] 34 (0, 0)) (blk_ BK162.out)) : gb162 ≠ gb164)); have n7_ := am_ ((by rw [hg]; exact Nat.ne_of_gt (blk_lt (g := gb162) (o := .cells #[.int .i64 a1_0, .string a1_1] 34 (0, 0)) (blk_ BK162.out)) : gb164 ≠ gb162)); have n8_ := am_ ((by rw [hg]; exact Nat.ne_of_lt (blk_lt (g := gb163) (o := .cells #[.string a2_0, .string a2_1, .string a2_2, .slice A2_3 l2_3.length c2_3, .slice A2_4 l2_4.length c2_4] 37 (0, 0)) (blk_ BK163.out)) : gb163 ≠ gb164)); have n9_ := am_ ((by rw [hg]; exact Nat.ne_of_gt (blk_lt (g := gb163) (o := .cells #[.string a2_0, .string a2_1, .string a2_2, .slice A2_3 l2_3.length c2_3, .slice A2_4 l2_4.length c2_4] 37 (0, 0)) (blk_ BK163.out)) : gb164 ≠ gb163)); clear BK162 BK163 HB; have BK162 := n0_; have BK163 := n1_; have HB := n2_; have BK164 := n3_; have GW164 := n4_; have GE164 := n5_; have NB162_164 := n6_; have NB164_162 := n7_; have NB163_164 := n8_; have NB164_163 := n9_; clear n0_ n1_ n2_ n3_ n4_ n5_ n6_ n7_ n8_ n9_ hb hbox hg))
 (try simp only [Act.put, List.setIfInBounds_toArray, List.set_cons_zero, List.set_cons_succ])
 go_cut [25] (fun v25 wc => ∃ (kq : Nat) (x25_4 : Bool), v25 = .bool x25_4 ∧ Aside0 (filter_Away.j0 kq l0 a3 x25_4 a1_0 a1_1 a2_0 a2_1 a2_2 l2_3 l2_4 = some (r1, r2, r3)) ∧ Aside0 (kq ≤ k) ∧ Aside0 (wc.heap[gb162]? = some (.cells #[.int .i64 a1_0, .string a1_1] 34 (0, 0))) ∧ Aside0 (wc.heap[gb163]? = some (.cells #[.string a2_0, .string a2_1, .string a2_2, (.slice A2_3 l2_3.length c2_3), (.slice A2_4 l2_4.length c2_4)] 37 (0, 0))) ∧ Aside0 (wc.heap[gb164]? = some (.cells #[.int .i64 0, .string (⟨#[]⟩ : ByteArray)] 42 (0, 0))) ∧ Aside0 (Below w.heap.size w wc))
 case first =>
  have H := HC5.out
  clear HC5
  replace H := Option.bind_eq_some_iff.mp H
  obtain ⟨t165, A90, H⟩ := H
  replace H : (if t165 = true then ((path_Holds.f k a1_0 a1_1 a2_2).bind fun t166 => (filter_Away.j0 k l0 a3 (!t166) a1_0 a1_1 a2_0 a2_1 a2_2 l2_3 l2_4)) else (filter_Away.j0 k l0 a3 true a1_0 a1_1 a2_0 a2_1 a2_2 l2_3 l2_4)) = some (r1, r2, r3) := H
  have A9 := Aside0.mk A90
  clear A90
  by_cases c10 : t165 = true
  ·subst c10
   have H1 : ((path_Holds.f k a1_0 a1_1 a2_2).bind fun t166 => (filter_Away.j0 k l0 a3 (!t166) a1_0 a1_1 a2_0 a2_1 a2_2 l2_3 l2_4)) = some (r1, r2, r3) := by rw [if_pos rfl] at H; exact H
   clear H
   have H := H1
   clear H1
   replace H := Option.bind_eq_some_iff.mp H
   obtain ⟨t166, A110, H⟩ := H
   replace H : (filter_Away.j0 k l0 a3 (!t166) a1_0 a1_1 a2_0 a2_1 a2_2 l2_3 l2_4) = some (r1, r2, r3) := H
   have A11 := Aside0.mk A110
   clear A110
   have H' := Aside0.mk H
   clear H
   go_wp2_with (first | ((with_reducible refine gate_callee (f := 5) rfl ?_); refine goesL_ (some 17) rfl rfl Tryd.func5 kr_ rfl #[.slice A0 l0.length c0] rfl rl_ ?_; (with_reducible refine (filter_All.calls k _ _ l0 true _ ?side1 ?side2 A9.out).mono ?_); (case side1 => exact C_ (Kd.C_below HR0.out HB.out)); (case side2 => exact HC0.out); rintro e w12 ⟨rfl, hb⟩; refine ⟨_, rfl, ?_⟩; have n0_ := am_ (blk_below (g := gb162) (o := .cells #[.int .i64 a1_0, .string a1_1] 34 (0, 0)) (blk_ BK162.out) hb); have n1_ := am_ (blk_below (g := gb163) (o := .cells #[.string a2_0, .string a2_1, .string a2_2, .slice A2_3 l2_3.length c2_3, .slice A2_4 l2_4.length c2_4] 37 (0, 0)) (blk_ BK163.out) hb); have n2_ := am_ (blk_below (g := gb164) (o := .cells #[.int .i64 0, .string (⟨#[]⟩ : ByteArray)] 42 (0, 0)) (blk_ BK164.out) hb); have n3_ := am_ (below_step (bel_ HB.out) hb); clear BK162 BK163 BK164 HB; have BK162 := n0_; have BK163 := n1_; have BK164 := n2_; have HB := n3_; clear n0_ n1_ n2_ n3_; (try clear hb); (try clear hb2); (try clear hk); (try clear hi); have hnb13 := NB162_163.out; have hnc13 := NB163_162.out; have hnb14 := NB162_164.out; have hnc14 := NB164_162.out; obtain ⟨hcz15_0, hcz15_1, hfz15_0, hfz15_1⟩ := blk2 BK162.out; have hnb16 := NB163_164.out; have hnc16 := NB164_163.out; obtain ⟨hcz17_0, hcz17_1, hcz17_2, hcz17_3, hcz17_4, hfz17_0, hfz17_1, hfz17_2, hfz17_3, hfz17_4⟩ := blk5 BK163.out) | (go_at_call 21; (with_reducible refine (path_Holds.calls k a1_0 a1_1 a2_2 t166 _ A11.out).mono ?_); rintro e w18 ⟨rfl, hb⟩; have n0_ := am_ (blk_below (g := gb162) (o := .cells #[.int .i64 a1_0, .string a1_1] 34 (0, 0)) (blk_ BK162.out) hb); have n1_ := am_ (blk_below (g := gb163) (o := .cells #[.string a2_0, .string a2_1, .string a2_2, .slice A2_3 l2_3.length c2_3, .slice A2_4 l2_4.length c2_4] 37 (0, 0)) (blk_ BK163.out) hb); have n2_ := am_ (blk_below (g := gb164) (o := .cells #[.int .i64 0, .string (⟨#[]⟩ : ByteArray)] 42 (0, 0)) (blk_ BK164.out) hb); have n3_ := am_ (below_step (bel_ HB.out) hb); clear BK162 BK163 BK164 HB; have BK162 := n0_; have BK163 := n1_; have BK164 := n2_; have HB := n3_; clear n0_ n1_ n2_ n3_; (try clear hb); (try clear hb2); (try clear hk); (try clear hi)))
   go_meet
   case rel => exact ⟨_, (!t166), sd_, H', ⟨by first | omega | exact Nat.le_refl _⟩, ⟨by (with_reducible repeat (first | refine blk_drewN ?_ _ | refine blk_drew ?_ | refine blk_alloc ?_ _)); exact BK162.out⟩, ⟨by (with_reducible repeat (first | refine blk_drewN ?_ _ | refine blk_drew ?_ | refine blk_alloc ?_ _)); exact BK163.out⟩, ⟨by (with_reducible repeat (first | refine blk_drewN ?_ _ | refine blk_drew ?_ | refine blk_alloc ?_ _)); exact BK164.out⟩, ⟨bel_ HB.out⟩⟩
  ·replace c10 := Bool.eq_false_iff.mpr c10
   subst c10
   have H1 : (filter_Away.j0 k l0 a3 true a1_0 a1_1 a2_0 a2_1 a2_2 l2_3 l2_4) = some (r1, r2, r3) := by rw [if_neg (show ¬ (false = true) by decide)] at H; exact H
   clear H
   have H := H1
   clear H1
   have H' := Aside0.mk H
   clear H
   go_wp2_with (first | ((with_reducible refine gate_callee (f := 5) rfl ?_); refine goesL_ (some 17) rfl rfl Tryd.func5 kr_ rfl #[.slice A0 l0.length c0] rfl rl_ ?_; (with_reducible refine (filter_All.calls k _ _ l0 false _ ?side1 ?side2 A9.out).mono ?_); (case side1 => exact C_ (Kd.C_below HR0.out HB.out)); (case side2 => exact HC0.out); rintro e w19 ⟨rfl, hb⟩; refine ⟨_, rfl, ?_⟩; have n0_ := am_ (blk_below (g := gb162) (o := .cells #[.int .i64 a1_0, .string a1_1] 34 (0, 0)) (blk_ BK162.out) hb); have n1_ := am_ (blk_below (g := gb163) (o := .cells #[.string a2_0, .string a2_1, .string a2_2, .slice A2_3 l2_3.length c2_3, .slice A2_4 l2_4.length c2_4] 37 (0, 0)) (blk_ BK163.out) hb); have n2_ := am_ (blk_below (g := gb164) (o := .cells #[.int .i64 0, .string (⟨#[]⟩ : ByteArray)] 42 (0, 0)) (blk_ BK164.out) hb); have n3_ := am_ (below_step (bel_ HB.out) hb); clear BK162 BK163 BK164 HB; have BK162 := n0_; have BK163 := n1_; have BK164 := n2_; have HB := n3_; clear n0_ n1_ n2_ n3_; (try clear hb); (try clear hb2); (try clear hk); (try clear hi)))
   go_meet
   case rel => exact ⟨_, (true), sd_, H', ⟨by first | omega | exact Nat.le_refl _⟩, ⟨by (with_reducible repeat (first | refine blk_drewN ?_ _ | refine blk_drew ?_ | refine blk_alloc ?_ _)); exact BK162.out⟩, ⟨by (with_reducible repeat (first | refine blk_drewN ?_ _ | refine blk_drew ?_ | refine blk_alloc ?_ _)); exact BK163.out⟩, ⟨by (with_reducible repeat (first | refine blk_drewN ?_ _ | refine blk_drew ?_ | refine blk_alloc ?_ _)); exact BK164.out⟩, ⟨bel_ HB.out⟩⟩
 case rest =>
  clear HC5
  try clear c1
  try clear c2
  try clear p2
  try clear c5
  try clear c10
  try clear c13
  try clear c14
  try clear c16
  try clear hcz15_0
  try clear hcz15_1
  try clear hcz17_0
  try clear hcz17_1
  try clear hcz17_2
  try clear hcz17_3
  try clear hcz17_4
  try clear hfz15_0
  try clear hfz15_1
  try clear hfz17_0
  try clear hfz17_1
  try clear hfz17_2
  try clear hfz17_3
  try clear hfz17_4
  obtain ⟨kq, x25_4, rfl, HA, HJ4, BK162, BK163, BK164, HB⟩ := hcut
  cases kq with
  | zero => exact absurd HA.out (by simp [filter_Away.j0])
  | succ kj4 =>
   have H := HA.out
   clear HA
   simp only [filter_Away.j0] at H
   by_cases c20 : x25_4 = true
   ·subst c20
    have H1 : (some (0, (⟨#[]⟩ : ByteArray), 1)) = some (r1, r2, r3) := by rw [if_pos rfl] at H; exact H
    clear H
    have H := H1
    clear H1
    simp only [Option.some.injEq, Prod.mk.injEq] at H
    obtain ⟨rfl, rfl, rfl⟩ := H
    have hnb21 := NB164_162.out
    have hnc21 := NB162_164.out
    have hnb22 := NB164_163.out
    have hnc22 := NB163_164.out
    obtain ⟨hcz23_0, hcz23_1, hfz23_0, hfz23_1⟩ := blk2 BK164.out
    go_wp2
    refine bodyPost_ret (results_ct rfl _ _ gb164 42 #[.int .i64 0, .string (⟨#[]⟩ : ByteArray)] (0, 0) _ rfl (by (with_reducible repeat (first | refine blk_drewN ?_ _ | refine blk_drew ?_ | refine blk_alloc ?_ _)); refine blk_put (cs := #[.int .i64 0, .string (⟨#[]⟩ : ByteArray)]) ?_ 1 _ rfl; (with_reducible repeat (first | refine blk_drewN ?_ _ | refine blk_drew ?_ | refine blk_alloc ?_ _)); refine blk_put (cs := #[.int .i64 0, .string (⟨#[]⟩ : ByteArray)]) ?_ 0 _ rfl; (with_reducible repeat (first | refine blk_drewN ?_ _ | refine blk_drew ?_ | refine blk_alloc ?_ _)); exact BK164.out) Tryd.underlying42 rfl kr_) rfl ?_
    exact ⟨fi_, bel_ HB.out⟩
   ·replace c20 := Bool.eq_false_iff.mpr c20
    subst c20
    have H1 : ((slices_IndexFunc_with_filter_Away_1.f l0).bind fun t167 => (if t167 < 0 then (some (0, (⟨#[]⟩ : ByteArray), 3)) else (if 0 ≤ t167 then (if t167 < (l0.length : Int) then (if a3 = true then (filter_Away.j1 kj4 (⟨#[104, 116, 116, 112, 115, 58, 47, 47]⟩ : ByteArray) 443 a1_0 a1_1 a2_0 a2_1 a2_2 l2_3 l2_4 ((rd_T27 l0 t167).f0) ((rd_T27 l0 t167).f1) ((rd_T27 l0 t167).f2) ((rd_T27 l0 t167).f3) ((rd_T27 l0 t167).f4) ((rd_T27 l0 t167).f5) ((rd_T27 l0 t167).f6) ((rd_T27 l0 t167).f7)) else (filter_Away.j1 kj4 (⟨#[104, 116, 116, 112, 58, 47, 47]⟩ : ByteArray) 80 a1_0 a1_1 a2_0 a2_1 a2_2 l2_3 l2_4 ((rd_T27 l0 t167).f0) ((rd_T27 l0 t167).f1) ((rd_T27 l0 t167).f2) ((rd_T27 l0 t167).f3) ((rd_T27 l0 t167).f4) ((rd_T27 l0 t167).f5) ((rd_T27 l0 t167).f6) ((rd_T27 l0 t167).f7))) else (none)) else (none)))) = some (r1, r2, r3) := by rw [if_neg (show ¬ (false = true) by decide)] at H; exact H
    clear H
    have H := H1
    clear H1
    replace H := Option.bind_eq_some_iff.mp H
    obtain ⟨t167, A240, H⟩ := H
    replace H : (if t167 < 0 then (some (0, (⟨#[]⟩ : ByteArray), 3)) else (if 0 ≤ t167 then (if t167 < (l0.length : Int) then (if a3 = true then (filter_Away.j1 kj4 (⟨#[104, 116, 116, 112, 115, 58, 47, 47]⟩ : ByteArray) 443 a1_0 a1_1 a2_0 a2_1 a2_2 l2_3 l2_4 ((rd_T27 l0 t167).f0) ((rd_T27 l0 t167).f1) ((rd_T27 l0 t167).f2) ((rd_T27 l0 t167).f3) ((rd_T27 l0 t167).f4) ((rd_T27 l0 t167).f5) ((rd_T27 l0 t167).f6) ((rd_T27 l0 t167).f7)) else (filter_Away.j1 kj4 (⟨#[104, 116, 116, 112, 58, 47, 47]⟩ : ByteArray) 80 a1_0 a1_1 a2_0 a2_1 a2_2 l2_3 l2_4 ((rd_T27 l0 t167).f0) ((rd_T27 l0 t167).f1) ((rd_T27 l0 t167).f2) ((rd_T27 l0 t167).f3) ((rd_T27 l0 t167).f4) ((rd_T27 l0 t167).f5) ((rd_T27 l0 t167).f6) ((rd_T27 l0 t167).f7))) else (none)) else (none))) = some (r1, r2, r3) := H
    have A24 := Aside0.mk A240
    clear A240
    by_cases c25 : t167 < 0
    ·rw [if_pos c25] at H
     have c25b0 : decide (t167 < 0) = true := decide_eq_true c25
     clear c25
     simp only [Option.some.injEq, Prod.mk.injEq] at H
     obtain ⟨rfl, rfl, rfl⟩ := H
     go_wp2_with (first | ((with_reducible refine gate_callee (f := 20) rfl ?_); refine goesL_ (some 28) rfl rfl Tryd.func20 kr_ rfl #[.slice A0 l0.length c0, .func (.func 23) #[] #[]] rfl rl_ ?_; (with_reducible refine (slices_IndexFunc_with_filter_Away_1.calls _ _ l0 t167 _ ?side1 ?side2 A24.out).mono ?_); (case side1 => exact C_ (Kd.C_below HR0.out HB.out)); (case side2 => exact HC0.out); rintro e w26 ⟨rfl, hb⟩; refine ⟨_, rfl, ?_⟩; have n0_ := am_ (blk_below (g := gb162) (o := .cells #[.int .i64 a1_0, .string a1_1] 34 (0, 0)) (blk_ BK162.out) hb); have n1_ := am_ (blk_below (g := gb163) (o := .cells #[.string a2_0, .string a2_1, .string a2_2, .slice A2_3 l2_3.length c2_3, .slice A2_4 l2_4.length c2_4] 37 (0, 0)) (blk_ BK163.out) hb); have n2_ := am_ (blk_below (g := gb164) (o := .cells #[.int .i64 0, .string (⟨#[]⟩ : ByteArray)] 42 (0, 0)) (blk_ BK164.out) hb); have n3_ := am_ (below_step (bel_ HB.out) hb); clear BK162 BK163 BK164 HB; have BK162 := n0_; have BK163 := n1_; have BK164 := n2_; have HB := n3_; clear n0_ n1_ n2_ n3_; (try clear hb); (try clear hb2); (try clear hk); (try clear hi); have hnb27 := NB164_162.out; have hnc27 := NB162_164.out; have hnb28 := NB164_163.out; have hnc28 := NB163_164.out; obtain ⟨hcz29_0, hcz29_1, hfz29_0, hfz29_1⟩ := blk2 BK164.out))
     refine bodyPost_ret (results_ct rfl _ _ gb164 42 #[.int .i64 0, .string (⟨#[]⟩ : ByteArray)] (0, 0) _ rfl (by (with_reducible repeat (first | refine blk_drewN ?_ _ | refine blk_drew ?_ | refine blk_alloc ?_ _)); refine blk_put (cs := #[.int .i64 0, .string (⟨#[]⟩ : ByteArray)]) ?_ 1 _ rfl; (with_reducible repeat (first | refine blk_drewN ?_ _ | refine blk_drew ?_ | refine blk_alloc ?_ _)); refine blk_put (cs := #[.int .i64 0, .string (⟨#[]⟩ : ByteArray)]) ?_ 0 _ rfl; (with_reducible repeat (first | refine blk_drewN ?_ _ | refine blk_drew ?_ | refine blk_alloc ?_ _)); exact BK164.out) Tryd.underlying42 rfl kr_) rfl ?_
     exact ⟨fi_, bel_ HB.out⟩
    ·rw [if_neg c25] at H
     have c25b0 : decide (t167 < 0) = false := decide_eq_false c25
     clear c25
     by_cases c30 : 0 ≤ t167
     ·rw [if_pos c30] at H
      have c30b0 : decide (0 ≤ t167) = true := decide_eq_true c30
      clear c30
      by_cases c31 : t167 < (l0.length : Int)
      ·rw [if_pos c31] at H
       have c31b0 : decide (t167 < (l0.length : Int)) = true := decide_eq_true c31
       clear c31
       have HC32 := Aside0.mk H
       clear H
       go_upto_if 36 with (first | ((with_reducible refine gate_callee (f := 20) rfl ?_); refine goesL_ (some 28) rfl rfl Tryd.func20 kr_ rfl #[.slice A0 l0.length c0, .func (.func 23) #[] #[]] rfl rl_ ?_; (with_reducible refine (slices_IndexFunc_with_filter_Away_1.calls _ _ l0 t167 _ ?side1 ?side2 A24.out).mono ?_); (case side1 => exact C_ (Kd.C_below HR0.out HB.out)); (case side2 => exact HC0.out); rintro e w33 ⟨rfl, hb⟩; refine ⟨_, rfl, ?_⟩; have n0_ := am_ (blk_below (g := gb162) (o := .cells #[.int .i64 a1_0, .string a1_1] 34 (0, 0)) (blk_ BK162.out) hb); have n1_ := am_ (blk_below (g := gb163) (o := .cells #[.string a2_0, .string a2_1, .string a2_2, .slice A2_3 l2_3.length c2_3, .slice A2_4 l2_4.length c2_4] 37 (0, 0)) (blk_ BK163.out) hb); have n2_ := am_ (blk_below (g := gb164) (o := .cells #[.int .i64 0, .string (⟨#[]⟩ : ByteArray)] 42 (0, 0)) (blk_ BK164.out) hb); have n3_ := am_ (below_step (bel_ HB.out) hb); clear BK162 BK163 BK164 HB; have BK162 := n0_; have BK163 := n1_; have BK164 := n2_; have HB := n3_; clear n0_ n1_ n2_ n3_; (try clear hb); (try clear hb2); (try clear hk); (try clear hi); have p168 : 0 ≤ (t167 : Int) := of_decide_eq_true as_; have q168 : t167 < (l0.length : Int) := of_decide_eq_true as_; obtain ⟨ad168, e168, hx168_0, hx168_1, hx168_2, hx168_3, hx168_4, hx168_5, hx168_6, hx168_7⟩ := at_T27 HR0.out t167 p168 q168; cases e168; replace hx168_0 := (HB.out.cell (World.block_lt_of_cell? w _ hx168_0)).trans hx168_0; replace hx168_1 := (HB.out.cell (World.block_lt_of_cell? w _ hx168_1)).trans hx168_1; replace hx168_2 := (HB.out.cell (World.block_lt_of_cell? w _ hx168_2)).trans hx168_2; replace hx168_3 := (HB.out.cell (World.block_lt_of_cell? w _ hx168_3)).trans hx168_3; replace hx168_4 := (HB.out.cell (World.block_lt_of_cell? w _ hx168_4)).trans hx168_4; replace hx168_5 := (HB.out.cell (World.block_lt_of_cell? w _ hx168_5)).trans hx168_5; replace hx168_6 := (HB.out.cell (World.block_lt_of_cell? w _ hx168_6)).trans hx168_6; replace hx168_7 := (HB.out.cell (World.block_lt_of_cell? w _ hx168_7)).trans hx168_7; replace p168 := eq_true p168; replace q168 := eq_true q168) | ((with_reducible refine gate_dst (N := 11) rfl ?_); refine box_event ?hg (N := 11) ?hd (cs := #[.int .i64 0, .string (⟨#[]⟩ : ByteArray), .string (⟨#[]⟩ : ByteArray), .string (⟨#[]⟩ : ByteArray), .int .i64 0, .string (⟨#[]⟩ : ByteArray), .bool false, .int .i64 0]) (t := 27) ?hr ?_; (case hd => rfl); (case hg => rfl); (case hr => first | (go_simp; done) | (go_simp; rfl)); intro gb169 hg w34 hbox hb; have n0_ := am_ (blk_below (g := gb162) (o := .cells #[.int .i64 a1_0, .string a1_1] 34 (0, 0)) (blk_ BK162.out) hb); have n1_ := am_ (blk_below (g := gb163) (o := .cells #[.string a2_0, .string a2_1, .string a2_2, .slice A2_3 l2_3.length c2_3, .slice A2_4 l2_4.length c2_4] 37 (0, 0)) (blk_ BK163.out) hb); have n2_ := am_ (blk_below (g := gb164) (o := .cells #[.int .i64 0, .string (⟨#[]⟩ : ByteArray)] 42 (0, 0)) (blk_ BK164.out) hb); have n3_ := am_ (below_step (bel_ HB.out) hb); have n4_ := am_ (hbox); have n5_ := am_ ((by rw [hg]; exact (below_size (bel_ HB.out)) : w.heap.size ≤ gb169)); have n6_ := am_ ((by rw [hg]; exact (below_size (bel_ HB.out)) : w.heap.size ≤ gb169)); have n7_ := am_ ((by rw [hg]; exact Nat.ne_of_lt (blk_lt (g := gb162) (o := .cells #[.int .i64 a1_0, .string a1_1] 34 (0, 0)) (blk_ BK162.out)) : gb162 ≠ gb169)); have n8_ := am_ ((by rw [hg]; exact Nat.ne_of_gt (blk_lt (g := gb162) (o := .cells #[.int .i64 a1_0, .string a1_1] 34 (0, 0)) (blk_ BK162.out)) : gb169 ≠ gb162)); have n9_ := am_ ((by rw [hg]; exact Nat.ne_of_lt (blk_lt (g := gb163) (o := .cells #[.string a2_0, .string a2_1, .string a2_2, .slice A2_3 l2_3.length c2_3, .slice A2_4 l2_4.length c2_4] 37 (0, 0)) (blk_ BK163.out)) : gb163 ≠ gb169)); have n10_ := am_ ((by rw [hg]; exact Nat.ne_of_gt (blk_lt (g := gb163) (o := .cells #[.string a2_0, .string a2_1, .string a2_2, .slice A2_3 l2_3.length c2_3, .slice A2_4 l2_4.length c2_4] 37 (0, 0)) (blk_ BK163.out)) : gb169 ≠ gb163)); have n11_ := am_ ((by rw [hg]; exact Nat.ne_of_lt (blk_lt (g := gb164) (o := .cells #[.int .i64 0, .string (⟨#[]⟩ : ByteArray)] 42 (0, 0)) (blk_ BK164.out)) : gb164 ≠ gb169)); have n12_ := am_ ((by rw [hg]; exact Nat.ne_of_gt (blk_lt (g := gb164) (o := .cells #[.int .i64 0, .string (⟨#[]⟩ : ByteArray)] 42 (0, 0)) (blk_ BK164.out)) : gb169 ≠ gb164)); clear BK162 BK163 BK164 HB; have BK162 := n0_; have BK163 := n1_; have BK164 := n2_; have HB := n3_; have BK169 := n4_; have GW169 := n5_; have GE169 := n6_; have NB162_169 := n7_; have NB169_162 := n8_; have NB163_169 := n9_; have NB169_163 := n10_; have NB164_169 := n11_; have NB169_164 := n12_; clear n0_ n1_ n2_ n3_ n4_ n5_ n6_ n7_ n8_ n9_ n10_ n11_ n12_ hb hbox hg; have hnb35 := NB169_162.out; have hnc35 := NB162_169.out; have hnb36 := NB169_163.out; have hnc36 := NB163_169.out; have hnb37 := NB169_164.out; have hnc37 := NB164_169.out; obtain ⟨hcz38_0, hcz38_1, hcz38_2, hcz38_3, hcz38_4, hcz38_5, hcz38_6, hcz38_7, hfz38_0, hfz38_1, hfz38_2, hfz38_3, hfz38_4, hfz38_5, hfz38_6, hfz38_7⟩ := blk8 BK169.out))
       (try simp only [Act.put, List.setIfInBounds_toArray, List.set_cons_zero, List.set_cons_succ])
       go_cut [12, 13] (fun v12 v13 wc => ∃ (kq : Nat) (x12_31 : ByteArray) (x13_31 : Int), v12 = .string x12_31 ∧ v13 = .int .i64 x13_31 ∧ Aside0 (filter_Away.j1 kq x12_31 x13_31 a1_0 a1_1 a2_0 a2_1 a2_2 l2_3 l2_4 ((rd_T27 l0 t167).f0) ((rd_T27 l0 t167).f1) ((rd_T27 l0 t167).f2) ((rd_T27 l0 t167).f3) ((rd_T27 l0 t167).f4) ((rd_T27 l0 t167).f5) ((rd_T27 l0 t167).f6) ((rd_T27 l0 t167).f7) = some (r1, r2, r3)) ∧ Aside0 (kq ≤ kj4) ∧ Aside0 (wc.heap[gb162]? = some (.cells #[.int .i64 a1_0, .string a1_1] 34 (0, 0))) ∧ Aside0 (wc.heap[gb163]? = some (.cells #[.string a2_0, .string a2_1, .string a2_2, (.slice A2_3 l2_3.length c2_3), (.slice A2_4 l2_4.length c2_4)] 37 (0, 0))) ∧ Aside0 (wc.heap[gb164]? = some (.cells #[.int .i64 0, .string (⟨#[]⟩ : ByteArray)] 42 (0, 0))) ∧ Aside0 (wc.heap[gb169]? = some (.cells #[.int .i64 ((rd_T27 l0 t167).f0), .string ((rd_T27 l0 t167).f1), .string ((rd_T27 l0 t167).f2), .string ((rd_T27 l0 t167).f3), .int .i64 ((rd_T27 l0 t167).f4), .string ((rd_T27 l0 t167).f5), .bool ((rd_T27 l0 t167).f6), .int .i64 ((rd_T27 l0 t167).f7)] 27 (0, 0))) ∧ Aside0 (Below w.heap.size w wc))
       case first =>
        have H := HC32.out
        clear HC32
        by_cases c39 : a3 = true
        ·subst c39
         have H1 : (filter_Away.j1 kj4 (⟨#[104, 116, 116, 112, 115, 58, 47, 47]⟩ : ByteArray) 443 a1_0 a1_1 a2_0 a2_1 a2_2 l2_3 l2_4 ((rd_T27 l0 t167).f0) ((rd_T27 l0 t167).f1) ((rd_T27 l0 t167).f2) ((rd_T27 l0 t167).f3) ((rd_T27 l0 t167).f4) ((rd_T27 l0 t167).f5) ((rd_T27 l0 t167).f6) ((rd_T27 l0 t167).f7)) = some (r1, r2, r3) := by rw [if_pos rfl] at H; exact H
         clear H
         have H := H1
         clear H1
         have H' := Aside0.mk H
         clear H
         go_wp2
         go_meet
         case rel => exact ⟨_, ((⟨#[104, 116, 116, 112, 115, 58, 47, 47]⟩ : ByteArray)), (443), sd_, sd_, H', ⟨by have := HJ4.out; first | omega | exact Nat.le_refl _⟩, ⟨by (with_reducible repeat (first | refine blk_drewN ?_ _ | refine blk_drew ?_ | refine blk_alloc ?_ _)); refine blk_far ?_ NB162_169.out _; (with_reducible repeat (first | refine blk_drewN ?_ _ | refine blk_drew ?_ | refine blk_alloc ?_ _)); refine blk_far ?_ NB162_169.out _; (with_reducible repeat (first | refine blk_drewN ?_ _ | refine blk_drew ?_ | refine blk_alloc ?_ _)); refine blk_far ?_ NB162_169.out _; (with_reducible repeat (first | refine blk_drewN ?_ _ | refine blk_drew ?_ | refine blk_alloc ?_ _)); refine blk_far ?_ NB162_169.out _; (with_reducible repeat (first | refine blk_drewN ?_ _ | refine blk_drew ?_ | refine blk_alloc ?_ _)); refine blk_far ?_ NB162_169.out _; (with_reducible repeat (first | refine blk_drewN ?_ _ | refine blk_drew ?_ | refine blk_alloc ?_ _)); refine blk_far ?_ NB162_169.out _; (with_reducible repeat (first | refine blk_drewN ?_ _ | refine blk_drew ?_ | refine blk_alloc ?_ _)); refine blk_far ?_ NB162_169.out _; (with_reducible repeat (first | refine blk_drewN ?_ _ | refine blk_drew ?_ | refine blk_alloc ?_ _)); refine blk_far ?_ NB162_169.out _; (with_reducible repeat (first | refine blk_drewN ?_ _ | refine blk_drew ?_ | refine blk_alloc ?_ _)); exact BK162.out⟩, ⟨by (with_reducible repeat (first | refine blk_drewN ?_ _ | refine blk_drew ?_ | refine blk_alloc ?_ _)); refine blk_far ?_ NB163_169.out _; (with_reducible repeat (first | refine blk_drewN ?_ _ | refine blk_drew ?_ | refine blk_alloc ?_ _)); refine blk_far ?_ NB163_169.out _; (with_reducible repeat (first | refine blk_drewN ?_ _ | refine blk_drew ?_ | refine blk_alloc ?_ _)); refine blk_far ?_ NB163_169.out _; (with_reducible repeat (first | refine blk_drewN ?_ _ | refine blk_drew ?_ | refine blk_alloc ?_ _)); refine blk_far ?_ NB163_169.out _; (with_reducible repeat (first | refine blk_drewN ?_ _ | refine blk_drew ?_ | refine blk_alloc ?_ _)); refine blk_far ?_ NB163_169.out _; (with_reducible repeat (first | refine blk_drewN ?_ _ | refine blk_drew ?_ | refine blk_alloc ?_ _)); refine blk_far ?_ NB163_169.out _; (with_reducible repeat (first | refine blk_drewN ?_ _ | refine blk_drew ?_ | refine blk_alloc ?_ _)); refine blk_far ?_ NB163_169.out _; (with_reducible repeat (first | refine blk_drewN ?_ _ | refine blk_drew ?_ | refine blk_alloc ?_ _)); refine blk_far ?_ NB163_169.out _; (with_reducible repeat (first | refine blk_drewN ?_ _ | refine blk_drew ?_ | refine blk_alloc ?_ _)); exact BK163.out⟩, ⟨by (with_reducible repeat (first | refine blk_drewN ?_ _ | refine blk_drew ?_ | refine blk_alloc ?_ _)); refine blk_far ?_ NB164_169.out _; (with_reducible repeat (first | refine blk_drewN ?_ _ | refine blk_drew ?_ | refine blk_alloc ?_ _)); refine blk_far ?_ NB164_169.out _; (with_reducible repeat (first | refine blk_drewN ?_ _ | refine blk_drew ?_ | refine blk_alloc ?_ _)); refine blk_far ?_ NB164_169.out _; (with_reducible repeat (first | refine blk_drewN ?_ _ | refine blk_drew ?_ | refine blk_alloc ?_ _)); refine blk_far ?_ NB164_169.out _; (with_reducible repeat (first | refine blk_drewN ?_ _ | refine blk_drew ?_ | refine blk_alloc ?_ _)); refine blk_far ?_ NB164_169.out _; (with_reducible repeat (first | refine blk_drewN ?_ _ | refine blk_drew ?_ | refine blk_alloc ?_ _)); refine blk_far ?_ NB164_169.out _; (with_reducible repeat (first | refine blk_drewN ?_ _ | refine blk_drew ?_ | refine blk_alloc ?_ _)); refine blk_far ?_ NB164_169.out _; (with_reducible repeat (first | refine blk_drewN ?_ _ | refine blk_drew ?_ | refine blk_alloc ?_ _)); refine blk_far ?_ NB164_169.out _; (with_reducible repeat (first | refine blk_drewN ?_ _ | refine blk_drew ?_ | refine blk_alloc ?_ _)); exact BK164.out⟩, ⟨by (with_reducible repeat (first | refine blk_drewN ?_ _ | refine blk_drew ?_ | refine blk_alloc ?_ _)); refine blk_put (cs := #[.int .i64 ((rd_T27 l0 t167).f0), .string ((rd_T27 l0 t167).f1), .string ((rd_T27 l0 t167).f2), .string ((rd_T27 l0 t167).f3), .int .i64 ((rd_T27 l0 t167).f4), .string ((rd_T27 l0 t167).f5), .bool ((rd_T27 l0 t167).f6), .int .i64 0]) ?_ 7 _ rfl; (with_reducible repeat (first | refine blk_drewN ?_ _ | refine blk_drew ?_ | refine blk_alloc ?_ _)); refine blk_put (cs := #[.int .i64 ((rd_T27 l0 t167).f0), .string ((rd_T27 l0 t167).f1), .string ((rd_T27 l0 t167).f2), .string ((rd_T27 l0 t167).f3), .int .i64 ((rd_T27 l0 t167).f4), .string ((rd_T27 l0 t167).f5), .bool false, .int .i64 0]) ?_ 6 _ rfl; (with_reducible repeat (first | refine blk_drewN ?_ _ | refine blk_drew ?_ | refine blk_alloc ?_ _)); refine blk_put (cs := #[.int .i64 ((rd_T27 l0 t167).f0), .string ((rd_T27 l0 t167).f1), .string ((rd_T27 l0 t167).f2), .string ((rd_T27 l0 t167).f3), .int .i64 ((rd_T27 l0 t167).f4), .string (⟨#[]⟩ : ByteArray), .bool false, .int .i64 0]) ?_ 5 _ rfl; (with_reducible repeat (first | refine blk_drewN ?_ _ | refine blk_drew ?_ | refine blk_alloc ?_ _)); refine blk_put (cs := #[.int .i64 ((rd_T27 l0 t167).f0), .string ((rd_T27 l0 t167).f1), .string ((rd_T27 l0 t167).f2), .string ((rd_T27 l0 t167).f3), .int .i64 0, .string (⟨#[]⟩ : ByteArray), .bool false, .int .i64 0]) ?_ 4 _ rfl; (with_reducible repeat (first | refine blk_drewN ?_ _ | refine blk_drew ?_ | refine blk_alloc ?_ _)); refine blk_put (cs := #[.int .i64 ((rd_T27 l0 t167).f0), .string ((rd_T27 l0 t167).f1), .string ((rd_T27 l0 t167).f2), .string (⟨#[]⟩ : ByteArray), .int .i64 0, .string (⟨#[]⟩ : ByteArray), .bool false, .int .i64 0]) ?_ 3 _ rfl; (with_reducible repeat (first | refine blk_drewN ?_ _ | refine blk_drew ?_ | refine blk_alloc ?_ _)); refine blk_put (cs := #[.int .i64 ((rd_T27 l0 t167).f0), .string ((rd_T27 l0 t167).f1), .string (⟨#[]⟩ : ByteArray), .string (⟨#[]⟩ : ByteArray), .int .i64 0, .string (⟨#[]⟩ : ByteArray), .bool false, .int .i64 0]) ?_ 2 _ rfl; (with_reducible repeat (first | refine blk_drewN ?_ _ | refine blk_drew ?_ | refine blk_alloc ?_ _)); refine blk_put (cs := #[.int .i64 ((rd_T27 l0 t167).f0), .string (⟨#[]⟩ : ByteArray), .string (⟨#[]⟩ : ByteArray), .string (⟨#[]⟩ : ByteArray), .int .i64 0, .string (⟨#[]⟩ : ByteArray), .bool false, .int .i64 0]) ?_ 1 _ rfl; (with_reducible repeat (first | refine blk_drewN ?_ _ | refine blk_drew ?_ | refine blk_alloc ?_ _)); refine blk_put (cs := #[.int .i64 0, .string (⟨#[]⟩ : ByteArray), .string (⟨#[]⟩ : ByteArray), .string (⟨#[]⟩ : ByteArray), .int .i64 0, .string (⟨#[]⟩ : ByteArray), .bool false, .int .i64 0]) ?_ 0 _ rfl; (with_reducible repeat (first | refine blk_drewN ?_ _ | refine blk_drew ?_ | refine blk_alloc ?_ _)); exact BK169.out⟩, ⟨bel_ HB.out⟩⟩
        ·replace c39 := Bool.eq_false_iff.mpr c39
         subst c39
         have H1 : (filter_Away.j1 kj4 (⟨#[104, 116, 116, 112, 58, 47, 47]⟩ : ByteArray) 80 a1_0 a1_1 a2_0 a2_1 a2_2 l2_3 l2_4 ((rd_T27 l0 t167).f0) ((rd_T27 l0 t167).f1) ((rd_T27 l0 t167).f2) ((rd_T27 l0 t167).f3) ((rd_T27 l0 t167).f4) ((rd_T27 l0 t167).f5) ((rd_T27 l0 t167).f6) ((rd_T27 l0 t167).f7)) = some (r1, r2, r3) := by rw [if_neg (show ¬ (false = true) by decide)] at H; exact H
         clear H
         have H := H1
         clear H1
         have H' := Aside0.mk H
         clear H
         go_wp2
         go_meet
         case rel => exact ⟨_, ((⟨#[104, 116, 116, 112, 58, 47, 47]⟩ : ByteArray)), (80), sd_, sd_, H', ⟨by have := HJ4.out; first | omega | exact Nat.le_refl _⟩, ⟨by (with_reducible repeat (first | refine blk_drewN ?_ _ | refine blk_drew ?_ | refine blk_alloc ?_ _)); refine blk_far ?_ NB162_169.out _; (with_reducible repeat (first | refine blk_drewN ?_ _ | refine blk_drew ?_ | refine blk_alloc ?_ _)); refine blk_far ?_ NB162_169.out _; (with_reducible repeat (first | refine blk_drewN ?_ _ | refine blk_drew ?_ | refine blk_alloc ?_ _)); refine blk_far ?_ NB162_169.out _; (with_reducible repeat (first | refine blk_drewN ?_ _ | refine blk_drew ?_ | refine blk_alloc ?_ _)); refine blk_far ?_ NB162_169.out _; (with_reducible repeat (first | refine blk_drewN ?_ _ | refine blk_drew ?_ | refine blk_alloc ?_ _)); refine blk_far ?_ NB162_169.out _; (with_reducible repeat (first | refine blk_drewN ?_ _ | refine blk_drew ?_ | refine blk_alloc ?_ _)); refine blk_far ?_ NB162_169.out _; (with_reducible repeat (first | refine blk_drewN ?_ _ | refine blk_drew ?_ | refine blk_alloc ?_ _)); refine blk_far ?_ NB162_169.out _; (with_reducible repeat (first | refine blk_drewN ?_ _ | refine blk_drew ?_ | refine blk_alloc ?_ _)); refine blk_far ?_ NB162_169.out _; (with_reducible repeat (first | refine blk_drewN ?_ _ | refine blk_drew ?_ | refine blk_alloc ?_ _)); exact BK162.out⟩, ⟨by (with_reducible repeat (first | refine blk_drewN ?_ _ | refine blk_drew ?_ | refine blk_alloc ?_ _)); refine blk_far ?_ NB163_169.out _; (with_reducible repeat (first | refine blk_drewN ?_ _ | refine blk_drew ?_ | refine blk_alloc ?_ _)); refine blk_far ?_ NB163_169.out _; (with_reducible repeat (first | refine blk_drewN ?_ _ | refine blk_drew ?_ | refine blk_alloc ?_ _)); refine blk_far ?_ NB163_169.out _; (with_reducible repeat (first | refine blk_drewN ?_ _ | refine blk_drew ?_ | refine blk_alloc ?_ _)); refine blk_far ?_ NB163_169.out _; (with_reducible repeat (first | refine blk_drewN ?_ _ | refine blk_drew ?_ | refine blk_alloc ?_ _)); refine blk_far ?_ NB163_169.out _; (with_reducible repeat (first | refine blk_drewN ?_ _ | refine blk_drew ?_ | refine blk_alloc ?_ _)); refine blk_far ?_ NB163_169.out _; (with_reducible repeat (first | refine blk_drewN ?_ _ | refine blk_drew ?_ | refine blk_alloc ?_ _)); refine blk_far ?_ NB163_169.out _; (with_reducible repeat (first | refine blk_drewN ?_ _ | refine blk_drew ?_ | refine blk_alloc ?_ _)); refine blk_far ?_ NB163_169.out _; (with_reducible repeat (first | refine blk_drewN ?_ _ | refine blk_drew ?_ | refine blk_alloc ?_ _)); exact BK163.out⟩, ⟨by (with_reducible repeat (first | refine blk_drewN ?_ _ | refine blk_drew ?_ | refine blk_alloc ?_ _)); refine blk_far ?_ NB164_169.out _; (with_reducible repeat (first | refine blk_drewN ?_ _ | refine blk_drew ?_ | refine blk_alloc ?_ _)); refine blk_far ?_ NB164_169.out _; (with_reducible repeat (first | refine blk_drewN ?_ _ | refine blk_drew ?_ | refine blk_alloc ?_ _)); refine blk_far ?_ NB164_169.out _; (with_reducible repeat (first | refine blk_drewN ?_ _ | refine blk_drew ?_ | refine blk_alloc ?_ _)); refine blk_far ?_ NB164_169.out _; (with_reducible repeat (first | refine blk_drewN ?_ _ | refine blk_drew ?_ | refine blk_alloc ?_ _)); refine blk_far ?_ NB164_169.out _; (with_reducible repeat (first | refine blk_drewN ?_ _ | refine blk_drew ?_ | refine blk_alloc ?_ _)); refine blk_far ?_ NB164_169.out _; (with_reducible repeat (first | refine blk_drewN ?_ _ | refine blk_drew ?_ | refine blk_alloc ?_ _)); refine blk_far ?_ NB164_169.out _; (with_reducible repeat (first | refine blk_drewN ?_ _ | refine blk_drew ?_ | refine blk_alloc ?_ _)); refine blk_far ?_ NB164_169.out _; (with_reducible repeat (first | refine blk_drewN ?_ _ | refine blk_drew ?_ | refine blk_alloc ?_ _)); exact BK164.out⟩, ⟨by (with_reducible repeat (first | refine blk_drewN ?_ _ | refine blk_drew ?_ | refine blk_alloc ?_ _)); refine blk_put (cs := #[.int .i64 ((rd_T27 l0 t167).f0), .string ((rd_T27 l0 t167).f1), .string ((rd_T27 l0 t167).f2), .string ((rd_T27 l0 t167).f3), .int .i64 ((rd_T27 l0 t167).f4), .string ((rd_T27 l0 t167).f5), .bool ((rd_T27 l0 t167).f6), .int .i64 0]) ?_ 7 _ rfl; (with_reducible repeat (first | refine blk_drewN ?_ _ | refine blk_drew ?_ | refine blk_alloc ?_ _)); refine blk_put (cs := #[.int .i64 ((rd_T27 l0 t167).f0), .string ((rd_T27 l0 t167).f1), .string ((rd_T27 l0 t167).f2), .string ((rd_T27 l0 t167).f3), .int .i64 ((rd_T27 l0 t167).f4), .string ((rd_T27 l0 t167).f5), .bool false, .int .i64 0]) ?_ 6 _ rfl; (with_reducible repeat (first | refine blk_drewN ?_ _ | refine blk_drew ?_ | refine blk_alloc ?_ _)); refine blk_put (cs := #[.int .i64 ((rd_T27 l0 t167).f0), .string ((rd_T27 l0 t167).f1), .string ((rd_T27 l0 t167).f2), .string ((rd_T27 l0 t167).f3), .int .i64 ((rd_T27 l0 t167).f4), .string (⟨#[]⟩ : ByteArray), .bool false, .int .i64 0]) ?_ 5 _ rfl; (with_reducible repeat (first | refine blk_drewN ?_ _ | refine blk_drew ?_ | refine blk_alloc ?_ _)); refine blk_put (cs := #[.int .i64 ((rd_T27 l0 t167).f0), .string ((rd_T27 l0 t167).f1), .string ((rd_T27 l0 t167).f2), .string ((rd_T27 l0 t167).f3), .int .i64 0, .string (⟨#[]⟩ : ByteArray), .bool false, .int .i64 0]) ?_ 4 _ rfl; (with_reducible repeat (first | refine blk_drewN ?_ _ | refine blk_drew ?_ | refine blk_alloc ?_ _)); refine blk_put (cs := #[.int .i64 ((rd_T27 l0 t167).f0), .string ((rd_T27 l0 t167).f1), .string ((rd_T27 l0 t167).f2), .string (⟨#[]⟩ : ByteArray), .int .i64 0, .string (⟨#[]⟩ : ByteArray), .bool false, .int .i64 0]) ?_ 3 _ rfl; (with_reducible repeat (first | refine blk_drewN ?_ _ | refine blk_drew ?_ | refine blk_alloc ?_ _)); refine blk_put (cs := #[.int .i64 ((rd_T27 l0 t167).f0), .string ((rd_T27 l0 t167).f1), .string (⟨#[]⟩ : ByteArray), .string (⟨#[]⟩ : ByteArray), .int .i64 0, .string (⟨#[]⟩ : ByteArray), .bool false, .int .i64 0]) ?_ 2 _ rfl; (with_reducible repeat (first | refine blk_drewN ?_ _ | refine blk_drew ?_ | refine blk_alloc ?_ _)); refine blk_put (cs := #[.int .i64 ((rd_T27 l0 t167).f0), .string (⟨#[]⟩ : ByteArray), .string (⟨#[]⟩ : ByteArray), .string (⟨#[]⟩ : ByteArray), .int .i64 0, .string (⟨#[]⟩ : ByteArray), .bool false, .int .i64 0]) ?_ 1 _ rfl; (with_reducible repeat (first | refine blk_drewN ?_ _ | refine blk_drew ?_ | refine blk_alloc ?_ _)); refine blk_put (cs := #[.int .i64 0, .string (⟨#[]⟩ : ByteArray), .string (⟨#[]⟩ : ByteArray), .string (⟨#[]⟩ : ByteArray), .int .i64 0, .string (⟨#[]⟩ : ByteArray), .bool false, .int .i64 0]) ?_ 0 _ rfl; (with_reducible repeat (first | refine blk_drewN ?_ _ | refine blk_drew ?_ | refine blk_alloc ?_ _)); exact BK169.out⟩, ⟨bel_ HB.out⟩⟩
       case rest =>
        clear HC32
        try clear c1
        try clear p1
        try clear q1
        try clear hx1
        try clear c2
        try clear p2
        try clear c3
        try clear c5
        try clear c10
        try clear c13
        try clear c14
        try clear c16
        try clear p16
        try clear q16
        try clear hx16
        try clear c20
        try clear c21
        try clear c22
        try clear c25
        try clear c25b0
        try clear c27
        try clear c28
        try clear c30
        try clear c30b0
        try clear c31
        try clear c31b0
        try clear c35
        try clear c36
        try clear c37
        try clear c39
        try clear hcz15_0
        try clear hcz15_1
        try clear hcz17_0
        try clear hcz17_1
        try clear hcz17_2
        try clear hcz17_3
        try clear hcz17_4
        try clear hcz23_0
        try clear hcz23_1
        try clear hcz29_0
        try clear hcz29_1
        try clear hcz38_0
        try clear hcz38_1
        try clear hcz38_2
        try clear hcz38_3
        try clear hcz38_4
        try clear hcz38_5
        try clear hcz38_6
        try clear hcz38_7
        try clear hfz15_0
        try clear hfz15_1
        try clear hfz17_0
        try clear hfz17_1
        try clear hfz17_2
        try clear hfz17_3
        try clear hfz17_4
        try clear hfz23_0
        try clear hfz23_1
        try clear hfz29_0
        try clear hfz29_1
        try clear hfz38_0
        try clear hfz38_1
        try clear hfz38_2
        try clear hfz38_3
        try clear hfz38_4
        try clear hfz38_5
        try clear hfz38_6
        try clear hfz38_7
        try clear hx168_0
        try clear hx168_1
        try clear hx168_2
        try clear hx168_3
        try clear hx168_4
        try clear hx168_5
        try clear hx168_6
        try clear hx168_7
        try clear p168
        try clear p2
        try clear q168
        obtain ⟨kq, x12_31, x13_31, rfl, rfl, HA, HJ31, BK162, BK163, BK164, BK169, HB⟩ := hcut
        cases kq with
        | zero => exact absurd HA.out (by simp [filter_Away.j1])
        | succ kj31 =>
         have H := HA.out
         clear HA
         simp only [filter_Away.j1] at H
         have HC40 := Aside0.mk H
         clear H
         have hnb41 := NB169_162.out
         have hnc41 := NB162_169.out
         have hnb42 := NB169_163.out
         have hnc42 := NB163_169.out
         have hnb43 := NB169_164.out
         have hnc43 := NB164_169.out
         obtain ⟨hcz44_0, hcz44_1, hcz44_2, hcz44_3, hcz44_4, hcz44_5, hcz44_6, hcz44_7, hfz44_0, hfz44_1, hfz44_2, hfz44_3, hfz44_4, hfz44_5, hfz44_6, hfz44_7⟩ := blk8 BK169.out
         go_upto_if 39 with (fail)
         go_cut [] (fun wc => ∃ (kq : Nat) (x164001_39 : ByteArray), Aside0 (filter_Away.j2 kq x12_31 x13_31 a1_0 a1_1 a2_0 x164001_39 a2_2 l2_3 l2_4 ((rd_T27 l0 t167).f0) ((rd_T27 l0 t167).f1) ((rd_T27 l0 t167).f2) ((rd_T27 l0 t167).f3) ((rd_T27 l0 t167).f4) ((rd_T27 l0 t167).f5) ((rd_T27 l0 t167).f6) ((rd_T27 l0 t167).f7) = some (r1, r2, r3)) ∧ Aside0 (kq ≤ kj31) ∧ Aside0 (wc.heap[gb162]? = some (.cells #[.int .i64 a1_0, .string a1_1] 34 (0, 0))) ∧ Aside0 (wc.heap[gb163]? = some (.cells #[.string a2_0, .string x164001_39, .string a2_2, (.slice A2_3 l2_3.length c2_3), (.slice A2_4 l2_4.length c2_4)] 37 (0, 0))) ∧ Aside0 (wc.heap[gb164]? = some (.cells #[.int .i64 0, .string (⟨#[]⟩ : ByteArray)] 42 (0, 0))) ∧ Aside0 (wc.heap[gb169]? = some (.cells #[.int .i64 ((rd_T27 l0 t167).f0), .string ((rd_T27 l0 t167).f1), .string ((rd_T27 l0 t167).f2), .string ((rd_T27 l0 t167).f3), .int .i64 ((rd_T27 l0 t167).f4), .string ((rd_T27 l0 t167).f5), .bool ((rd_T27 l0 t167).f6), .int .i64 ((rd_T27 l0 t167).f7)] 27 (0, 0))) ∧ Aside0 (Below w.heap.size w wc))
         case first =>
          have hcq_ : wc.cell? ⟨gb163, 1, none⟩ = some _ := (blk_cell BK163.out 1).trans rfl
          have hfq_ := blk_frozen BK163.out 1
          have H := HC40.out
          clear HC40
          by_cases c45 : ((rd_T27 l0 t167).f3).toList = ([] : List UInt8)
          ·rw [if_pos c45] at H
           have c45b2 : ((rd_T27 l0 t167).f3).toList.isEmpty = true := List.isEmpty_iff.2 c45
           have c45b2 : ((rd_T27 l0 t167).f3).toList.isEmpty = true := List.isEmpty_iff.2 c45
           have c45b0 : (((rd_T27 l0 t167).f3).toList == ([] : List UInt8)) = true := beq_iff_eq.mpr c45
           have c45b1 : (((rd_T27 l0 t167).f3).toList != ([] : List UInt8)) = false := bne_eq_false_iff_eq.mpr c45
           clear c45
           (first | rw [c45b0] | rw [c45b1] | rw [c45b2] | (simp only [i64_w, i32_w]; rw [c45b0]) | skip)
           have H' := Aside0.mk H
           clear H
           go_wp2
           go_meet
           case rel => exact ⟨_, (a2_1), H', ⟨by have := HJ4.out; have := HJ31.out; first | omega | exact Nat.le_refl _⟩, ⟨by (with_reducible repeat (first | refine blk_drewN ?_ _ | refine blk_drew ?_ | refine blk_alloc ?_ _)); exact BK162.out⟩, ⟨by (with_reducible repeat (first | refine blk_drewN ?_ _ | refine blk_drew ?_ | refine blk_alloc ?_ _)); exact BK163.out⟩, ⟨by (with_reducible repeat (first | refine blk_drewN ?_ _ | refine blk_drew ?_ | refine blk_alloc ?_ _)); exact BK164.out⟩, ⟨by (with_reducible repeat (first | refine blk_drewN ?_ _ | refine blk_drew ?_ | refine blk_alloc ?_ _)); exact BK169.out⟩, ⟨bel_ HB.out⟩⟩
          ·rw [if_neg c45] at H
           have c45b2 : ((rd_T27 l0 t167).f3).toList.isEmpty = false := by rw [List.isEmpty_eq_false_iff]; exact c45
           have c45b2 : ((rd_T27 l0 t167).f3).toList.isEmpty = false := by rw [List.isEmpty_eq_false_iff]; exact c45
           have c45b0 : (((rd_T27 l0 t167).f3).toList == ([] : List UInt8)) = false := beq_eq_false_iff_ne.mpr c45
           have c45b1 : (((rd_T27 l0 t167).f3).toList != ([] : List UInt8)) = true := bne_iff_ne.mpr c45
           (first | rw [c45b0] | rw [c45b1] | rw [c45b2] | (simp only [i64_w, i32_w]; rw [c45b0]) | skip)
           have H' := Aside0.mk H
           clear H
           have hnb46 := NB169_162.out
           have hnc46 := NB162_169.out
           have hnb47 := NB169_163.out
           have hnc47 := NB163_169.out
           have hnb48 := NB169_164.out
           have hnc48 := NB164_169.out
           obtain ⟨hcz49_0, hcz49_1, hcz49_2, hcz49_3, hcz49_4, hcz49_5, hcz49_6, hcz49_7, hfz49_0, hfz49_1, hfz49_2, hfz49_3, hfz49_4, hfz49_5, hfz49_6, hfz49_7⟩ := blk8 BK169.out
           have hnb50 := NB163_162.out
           have hnc50 := NB162_163.out
           have hnb51 := NB163_164.out
           have hnc51 := NB164_163.out
           obtain ⟨hcz52_0, hcz52_1, hcz52_2, hcz52_3, hcz52_4, hfz52_0, hfz52_1, hfz52_2, hfz52_3, hfz52_4⟩ := blk5 BK163.out
           go_wp2
           go_meet
           case rel => exact ⟨_, (((rd_T27 l0 t167).f3)), H', ⟨by have := HJ4.out; have := HJ31.out; first | omega | exact Nat.le_refl _⟩, ⟨by (with_reducible repeat (first | refine blk_drewN ?_ _ | refine blk_drew ?_ | refine blk_alloc ?_ _)); refine blk_far ?_ NB162_163.out _; (with_reducible repeat (first | refine blk_drewN ?_ _ | refine blk_drew ?_ | refine blk_alloc ?_ _)); exact BK162.out⟩, ⟨by (with_reducible repeat (first | refine blk_drewN ?_ _ | refine blk_drew ?_ | refine blk_alloc ?_ _)); refine blk_put (cs := #[.string a2_0, .string a2_1, .string a2_2, .slice A2_3 l2_3.length c2_3, .slice A2_4 l2_4.length c2_4]) ?_ 1 _ rfl; (with_reducible repeat (first | refine blk_drewN ?_ _ | refine blk_drew ?_ | refine blk_alloc ?_ _)); exact BK163.out⟩, ⟨by (with_reducible repeat (first | refine blk_drewN ?_ _ | refine blk_drew ?_ | refine blk_alloc ?_ _)); refine blk_far ?_ NB164_163.out _; (with_reducible repeat (first | refine blk_drewN ?_ _ | refine blk_drew ?_ | refine blk_alloc ?_ _)); exact BK164.out⟩, ⟨by (with_reducible repeat (first | refine blk_drewN ?_ _ | refine blk_drew ?_ | refine blk_alloc ?_ _)); refine blk_far ?_ NB169_163.out _; (with_reducible repeat (first | refine blk_drewN ?_ _ | refine blk_drew ?_ | refine blk_alloc ?_ _)); exact BK169.out⟩, ⟨bel_ HB.out⟩⟩
         case rest =>
          clear HC40
          try clear c1
          try clear p1
          try clear q1
          try clear hx1
          try clear c2
          try clear p2
          try clear c3
          try clear c4
          try clear c5
          try clear c10
          try clear c13
          try clear c14
          try clear c16
          try clear p16
          try clear q16
          try clear hx16
          try clear c20
          try clear c21
          try clear c22
          try clear c25
          try clear c25b0
          try clear c27
          try clear c28
          try clear c30
          try clear c30b0
          try clear c31
          try clear c31b0
          try clear c35
          try clear c36
          try clear c37
          try clear c39
          try clear c41
          try clear c42
          try clear c43
          try clear c45
          try clear c45b0
          try clear c45b1
          try clear c45b2
          try clear c46
          try clear c47
          try clear c48
          try clear c50
          try clear c51
          try clear hcz15_0
          try clear hcz15_1
          try clear hcz17_0
          try clear hcz17_1
          try clear hcz17_2
          try clear hcz17_3
          try clear hcz17_4
          try clear hcz23_0
          try clear hcz23_1
          try clear hcz29_0
          try clear hcz29_1
          try clear hcz38_0
          try clear hcz38_1
          try clear hcz38_2
          try clear hcz38_3
          try clear hcz38_4
          try clear hcz38_5
          try clear hcz38_6
          try clear hcz38_7
          try clear hcz44_0
          try clear hcz44_1
          try clear hcz44_2
          try clear hcz44_3
          try clear hcz44_4
          try clear hcz44_5
          try clear hcz44_6
          try clear hcz44_7
          try clear hcz49_0
          try clear hcz49_1
          try clear hcz49_2
          try clear hcz49_3
          try clear hcz49_4
          try clear hcz49_5
          try clear hcz49_6
          try clear hcz49_7
          try clear hcz52_0
          try clear hcz52_1
          try clear hcz52_2
          try clear hcz52_3
          try clear hcz52_4
          try clear hfz15_0
          try clear hfz15_1
          try clear hfz17_0
          try clear hfz17_1
          try clear hfz17_2
          try clear hfz17_3
          try clear hfz17_4
          try clear hfz23_0
          try clear hfz23_1
          try clear hfz29_0
          try clear hfz29_1
          try clear hfz38_0
          try clear hfz38_1
          try clear hfz38_2
          try clear hfz38_3
          try clear hfz38_4
          try clear hfz38_5
          try clear hfz38_6
          try clear hfz38_7
          try clear hfz44_0
          try clear hfz44_1
          try clear hfz44_2
          try clear hfz44_3
          try clear hfz44_4
          try clear hfz44_5
          try clear hfz44_6
          try clear hfz44_7
          try clear hfz49_0
          try clear hfz49_1
          try clear hfz49_2
          try clear hfz49_3
          try clear hfz49_4
          try clear hfz49_5
          try clear hfz49_6
          try clear hfz49_7
          try clear hfz52_0
          try clear hfz52_1
          try clear hfz52_2
          try clear hfz52_3
          try clear hfz52_4
          try clear hx168_0
          try clear hx168_1
          try clear hx168_2
          try clear hx168_3
          try clear hx168_4
          try clear hx168_5
          try clear hx168_6
          try clear hx168_7
          try clear p1
          try clear p16
          try clear p168
          try clear p2
          try clear q1
          try clear q16
          try clear q168
          obtain ⟨kq, x164001_39, HA, HJ39, BK162, BK163, BK164, BK169, HB⟩ := hcut
          cases kq with
          | zero => exact absurd HA.out (by simp [filter_Away.j2])
          | succ kj39 =>
           have H := HA.out
           clear HA
           simp only [filter_Away.j2] at H
           by_cases c53 : x12_31.size + x164001_39.size ≤ 9223372036854775807
           ·rw [if_pos c53] at H
            have c53b0 := eq_true c53
            have c53b1 : decide (x12_31.size + x164001_39.size ≤ 9223372036854775807) = true := decide_eq_true c53
            try have c53b2 : (9223372036854775807 < x12_31.size + x164001_39.size) = False := eq_false (Nat.not_lt.2 c53)
            have HC54 := Aside0.mk H
            clear H
            have hnb55 := NB163_162.out
            have hnc55 := NB162_163.out
            have hnb56 := NB163_164.out
            have hnc56 := NB164_163.out
            have hnb57 := NB163_169.out
            have hnc57 := NB169_163.out
            obtain ⟨hcz58_0, hcz58_1, hcz58_2, hcz58_3, hcz58_4, hfz58_0, hfz58_1, hfz58_2, hfz58_3, hfz58_4⟩ := blk5 BK163.out
            go_upto_region 12 with (fail)
            go_cut [55] (fun v55 wc => ∃ (kq : Nat) (x55_53 : Bool), v55 = .bool x55_53 ∧ Aside0 (filter_Away.j3 kq (x12_31 ++ x164001_39) x55_53 a1_0 a1_1 a2_0 x164001_39 a2_2 l2_3 l2_4 ((rd_T27 l0 t167).f0) ((rd_T27 l0 t167).f1) ((rd_T27 l0 t167).f2) ((rd_T27 l0 t167).f3) ((rd_T27 l0 t167).f4) ((rd_T27 l0 t167).f5) ((rd_T27 l0 t167).f6) ((rd_T27 l0 t167).f7) = some (r1, r2, r3)) ∧ Aside0 (kq ≤ kj39) ∧ Aside0 (wc.heap[gb162]? = some (.cells #[.int .i64 a1_0, .string a1_1] 34 (0, 0))) ∧ Aside0 (wc.heap[gb163]? = some (.cells #[.string a2_0, .string x164001_39, .string a2_2, (.slice A2_3 l2_3.length c2_3), (.slice A2_4 l2_4.length c2_4)] 37 (0, 0))) ∧ Aside0 (wc.heap[gb164]? = some (.cells #[.int .i64 0, .string (⟨#[]⟩ : ByteArray)] 42 (0, 0))) ∧ Aside0 (wc.heap[gb169]? = some (.cells #[.int .i64 ((rd_T27 l0 t167).f0), .string ((rd_T27 l0 t167).f1), .string ((rd_T27 l0 t167).f2), .string ((rd_T27 l0 t167).f3), .int .i64 ((rd_T27 l0 t167).f4), .string ((rd_T27 l0 t167).f5), .bool ((rd_T27 l0 t167).f6), .int .i64 ((rd_T27 l0 t167).f7)] 27 (0, 0))) ∧ Aside0 (Below w.heap.size w wc))
            case first =>
             have H := HC54.out
             clear HC54
             by_cases c59 : ((rd_T27 l0 t167).f4) = 0
             ·rw [if_pos c59] at H
              have c59b0 : (((rd_T27 l0 t167).f4) == 0) = true := beq_iff_eq.mpr c59
              have c59b1 : (((rd_T27 l0 t167).f4) != 0) = false := bne_eq_false_iff_eq.mpr c59
              clear c59
              (first | rw [c59b0] | rw [c59b1] | rw [c59b2] | (simp only [i64_w, i32_w]; rw [c59b0]) | skip)
              have H' := Aside0.mk H
              clear H
              have hnb60 := NB169_162.out
              have hnc60 := NB162_169.out
              have hnb61 := NB169_163.out
              have hnc61 := NB163_169.out
              have hnb62 := NB169_164.out
              have hnc62 := NB164_169.out
              obtain ⟨hcz63_0, hcz63_1, hcz63_2, hcz63_3, hcz63_4, hcz63_5, hcz63_6, hcz63_7, hfz63_0, hfz63_1, hfz63_2, hfz63_3, hfz63_4, hfz63_5, hfz63_6, hfz63_7⟩ := blk8 BK169.out
              go_wp2
              go_meet
              case rel => exact ⟨_, (false), sd_, H', ⟨by have := HJ4.out; have := HJ31.out; have := HJ39.out; first | omega | exact Nat.le_refl _⟩, ⟨by (with_reducible repeat (first | refine blk_drewN ?_ _ | refine blk_drew ?_ | refine blk_alloc ?_ _)); exact BK162.out⟩, ⟨by (with_reducible repeat (first | refine blk_drewN ?_ _ | refine blk_drew ?_ | refine blk_alloc ?_ _)); exact BK163.out⟩, ⟨by (with_reducible repeat (first | refine blk_drewN ?_ _ | refine blk_drew ?_ | refine blk_alloc ?_ _)); exact BK164.out⟩, ⟨by (with_reducible repeat (first | refine blk_drewN ?_ _ | refine blk_drew ?_ | refine blk_alloc ?_ _)); exact BK169.out⟩, ⟨bel_ HB.out⟩⟩
             ·rw [if_neg c59] at H
              have c59b0 : (((rd_T27 l0 t167).f4) == 0) = false := beq_eq_false_iff_ne.mpr c59
              have c59b1 : (((rd_T27 l0 t167).f4) != 0) = true := bne_iff_ne.mpr c59
              (first | rw [c59b0] | rw [c59b1] | rw [c59b2] | (simp only [i64_w, i32_w]; rw [c59b0]) | skip)
              have H' := Aside0.mk H
              clear H
              have hnb64 := NB169_162.out
              have hnc64 := NB162_169.out
              have hnb65 := NB169_163.out
              have hnc65 := NB163_169.out
              have hnb66 := NB169_164.out
              have hnc66 := NB164_169.out
              obtain ⟨hcz67_0, hcz67_1, hcz67_2, hcz67_3, hcz67_4, hcz67_5, hcz67_6, hcz67_7, hfz67_0, hfz67_1, hfz67_2, hfz67_3, hfz67_4, hfz67_5, hfz67_6, hfz67_7⟩ := blk8 BK169.out
              go_wp2
              go_meet
              case rel => exact ⟨_, ((((rd_T27 l0 t167).f4) != x13_31)), sd_, H', ⟨by have := HJ4.out; have := HJ31.out; have := HJ39.out; first | omega | exact Nat.le_refl _⟩, ⟨by (with_reducible repeat (first | refine blk_drewN ?_ _ | refine blk_drew ?_ | refine blk_alloc ?_ _)); exact BK162.out⟩, ⟨by (with_reducible repeat (first | refine blk_drewN ?_ _ | refine blk_drew ?_ | refine blk_alloc ?_ _)); exact BK163.out⟩, ⟨by (with_reducible repeat (first | refine blk_drewN ?_ _ | refine blk_drew ?_ | refine blk_alloc ?_ _)); exact BK164.out⟩, ⟨by (with_reducible repeat (first | refine blk_drewN ?_ _ | refine blk_drew ?_ | refine blk_alloc ?_ _)); exact BK169.out⟩, ⟨bel_ HB.out⟩⟩
            case rest =>
             clear HC54
             try clear c1
             try clear p1
             try clear q1
             try clear hx1
             try clear c2
             try clear p2
             try clear c3
             try clear c4
             try clear c5
             try clear c6
             try clear c10
             try clear c13
             try clear c14
             try clear c16
             try clear p16
             try clear q16
             try clear hx16
             try clear c20
             try clear c21
             try clear c22
             try clear c25
             try clear c25b0
             try clear c27
             try clear c28
             try clear c30
             try clear c30b0
             try clear c31
             try clear c31b0
             try clear c35
             try clear c36
             try clear c37
             try clear c39
             try clear c41
             try clear c42
             try clear c43
             try clear c45
             try clear c45b0
             try clear c45b1
             try clear c45b2
             try clear c46
             try clear c47
             try clear c48
             try clear c50
             try clear c51
             try clear c53
             try clear c53b0
             try clear c53b1
             try clear c53b2
             try clear c55
             try clear c56
             try clear c57
             try clear c59
             try clear c59b0
             try clear c59b1
             try clear c59b2
             try clear c60
             try clear c61
             try clear c62
             try clear c64
             try clear c65
             try clear c66
             try clear hcz15_0
             try clear hcz15_1
             try clear hcz17_0
             try clear hcz17_1
             try clear hcz17_2
             try clear hcz17_3
             try clear hcz17_4
             try clear hcz23_0
             try clear hcz23_1
             try clear hcz29_0
             try clear hcz29_1
             try clear hcz38_0
             try clear hcz38_1
             try clear hcz38_2
             try clear hcz38_3
             try clear hcz38_4
             try clear hcz38_5
             try clear hcz38_6
             try clear hcz38_7
             try clear hcz44_0
             try clear hcz44_1
             try clear hcz44_2
             try clear hcz44_3
             try clear hcz44_4
             try clear hcz44_5
             try clear hcz44_6
             try clear hcz44_7
             try clear hcz49_0
             try clear hcz49_1
             try clear hcz49_2
             try clear hcz49_3
             try clear hcz49_4
             try clear hcz49_5
             try clear hcz49_6
             try clear hcz49_7
             try clear hcz52_0
             try clear hcz52_1
             try clear hcz52_2
             try clear hcz52_3
             try clear hcz52_4
             try clear hcz58_0
             try clear hcz58_1
             try clear hcz58_2
             try clear hcz58_3
             try clear hcz58_4
             try clear hcz63_0
             try clear hcz63_1
             try clear hcz63_2
             try clear hcz63_3
             try clear hcz63_4
             try clear hcz63_5
             try clear hcz63_6
             try clear hcz63_7
             try clear hcz67_0
             try clear hcz67_1
             try clear hcz67_2
             try clear hcz67_3
             try clear hcz67_4
             try clear hcz67_5
             try clear hcz67_6
             try clear hcz67_7
             try clear hfz15_0
             try clear hfz15_1
             try clear hfz17_0
             try clear hfz17_1
             try clear hfz17_2
             try clear hfz17_3
             try clear hfz17_4
             try clear hfz23_0
             try clear hfz23_1
             try clear hfz29_0
             try clear hfz29_1
             try clear hfz38_0
             try clear hfz38_1
             try clear hfz38_2
             try clear hfz38_3
             try clear hfz38_4
             try clear hfz38_5
             try clear hfz38_6
             try clear hfz38_7
             try clear hfz44_0
             try clear hfz44_1
             try clear hfz44_2
             try clear hfz44_3
             try clear hfz44_4
             try clear hfz44_5
             try clear hfz44_6
             try clear hfz44_7
             try clear hfz49_0
             try clear hfz49_1
             try clear hfz49_2
             try clear hfz49_3
             try clear hfz49_4
             try clear hfz49_5
             try clear hfz49_6
             try clear hfz49_7
             try clear hfz52_0
             try clear hfz52_1
             try clear hfz52_2
             try clear hfz52_3
             try clear hfz52_4
             try clear hfz58_0
             try clear hfz58_1
             try clear hfz58_2
             try clear hfz58_3
             try clear hfz58_4
             try clear hfz63_0
             try clear hfz63_1
             try clear hfz63_2
             try clear hfz63_3
             try clear hfz63_4
             try clear hfz63_5
             try clear hfz63_6
             try clear hfz63_7
             try clear hfz67_0
             try clear hfz67_1
             try clear hfz67_2
             try clear hfz67_3
             try clear hfz67_4
             try clear hfz67_5
             try clear hfz67_6
             try clear hfz67_7
             try clear hx168_0
             try clear hx168_1
             try clear hx168_2
             try clear hx168_3
             try clear hx168_4
             try clear hx168_5
             try clear hx168_6
             try clear hx168_7
             try clear p1
             try clear p16
             try clear p168
             try clear p2
             try clear q1
             try clear q16
             try clear q168
             obtain ⟨kq, x55_53, rfl, HA, HJ53, BK162, BK163, BK164, BK169, HB⟩ := hcut
             cases kq with
             | zero => exact absurd HA.out (by simp [filter_Away.j3])
             | succ kj53 =>
              have H := HA.out
              clear HA
              simp only [filter_Away.j3] at H
              by_cases c68 : x55_53 = true
              ·subst c68
               have H1 : ((strconv_Itoa_24.f ((rd_T27 l0 t167).f4)).bind fun t170 => (if 1 + t170.size ≤ 9223372036854775807 then (if (x12_31 ++ x164001_39).size + ((⟨#[58]⟩ : ByteArray) ++ t170).size ≤ 9223372036854775807 then ((filter_becomes.f kj53 ((rd_T27 l0 t167).f0) ((rd_T27 l0 t167).f1) ((rd_T27 l0 t167).f2) ((rd_T27 l0 t167).f3) ((rd_T27 l0 t167).f4) ((rd_T27 l0 t167).f5) ((rd_T27 l0 t167).f6) ((rd_T27 l0 t167).f7) a1_0 a1_1 a2_2).bind fun bt171 => (if bt171.2 = 0 then (if ((x12_31 ++ x164001_39) ++ ((⟨#[58]⟩ : ByteArray) ++ t170)).size + bt171.1.size ≤ 9223372036854775807 then (some (((rd_T27 l0 t167).f7), ((x12_31 ++ x164001_39) ++ ((⟨#[58]⟩ : ByteArray) ++ t170)) ++ bt171.1, 0)) else (none)) else (some (0, (⟨#[]⟩ : ByteArray), bt171.2)))) else (none)) else (none))) = some (r1, r2, r3) := by rw [if_pos rfl] at H; exact H
               clear H
               have H := H1
               clear H1
               replace H := Option.bind_eq_some_iff.mp H
               obtain ⟨t170, A690, H⟩ := H
               replace H : (if 1 + t170.size ≤ 9223372036854775807 then (if (x12_31 ++ x164001_39).size + ((⟨#[58]⟩ : ByteArray) ++ t170).size ≤ 9223372036854775807 then ((filter_becomes.f kj53 ((rd_T27 l0 t167).f0) ((rd_T27 l0 t167).f1) ((rd_T27 l0 t167).f2) ((rd_T27 l0 t167).f3) ((rd_T27 l0 t167).f4) ((rd_T27 l0 t167).f5) ((rd_T27 l0 t167).f6) ((rd_T27 l0 t167).f7) a1_0 a1_1 a2_2).bind fun bt171 => (if bt171.2 = 0 then (if ((x12_31 ++ x164001_39) ++ ((⟨#[58]⟩ : ByteArray) ++ t170)).size + bt171.1.size ≤ 9223372036854775807 then (some (((rd_T27 l0 t167).f7), ((x12_31 ++ x164001_39) ++ ((⟨#[58]⟩ : ByteArray) ++ t170)) ++ bt171.1, 0)) else (none)) else (some (0, (⟨#[]⟩ : ByteArray), bt171.2)))) else (none)) else (none)) = some (r1, r2, r3) := H
               have A69 := Aside0.mk A690
               clear A690
               by_cases c70 : 1 + t170.size ≤ 9223372036854775807
               ·rw [if_pos c70] at H
                have c70b0 := eq_true c70
                have c70b1 : decide (1 + t170.size ≤ 9223372036854775807) = true := decide_eq_true c70
                try have c70b2 : (9223372036854775807 < 1 + t170.size) = False := eq_false (Nat.not_lt.2 c70)
                by_cases c71 : (x12_31 ++ x164001_39).size + ((⟨#[58]⟩ : ByteArray) ++ t170).size ≤ 9223372036854775807
                ·rw [if_pos c71] at H
                 have c71b0 := eq_true c71
                 have c71b1 : decide ((x12_31 ++ x164001_39).size + ((⟨#[58]⟩ : ByteArray) ++ t170).size ≤ 9223372036854775807) = true := decide_eq_true c71
                 try have c71b2 : (9223372036854775807 < (x12_31 ++ x164001_39).size + ((⟨#[58]⟩ : ByteArray) ++ t170).size) = False := eq_false (Nat.not_lt.2 c71)
                 (try have c71z : (9223372036854775807 < x12_31.size + x164001_39.size + (1 + t170.size)) = False := eq_false (Nat.not_lt.2 (by have q_ := c71; simp only [ByteArray.size_append] at q_; exact q_)))
                 replace H := Option.bind_eq_some_iff.mp H
                 obtain ⟨⟨t171, t172⟩, A720, H⟩ := H
                 replace H : (if t172 = 0 then (if ((x12_31 ++ x164001_39) ++ ((⟨#[58]⟩ : ByteArray) ++ t170)).size + t171.size ≤ 9223372036854775807 then (some (((rd_T27 l0 t167).f7), ((x12_31 ++ x164001_39) ++ ((⟨#[58]⟩ : ByteArray) ++ t170)) ++ t171, 0)) else (none)) else (some (0, (⟨#[]⟩ : ByteArray), t172))) = some (r1, r2, r3) := H
                 have A72 := Aside0.mk A720
                 clear A720
                 by_cases c73 : t172 = 0
                 ·rw [if_pos c73] at H
                  have c73b0 : (t172 == 0) = true := beq_iff_eq.mpr c73
                  have c73b1 : (t172 != 0) = false := bne_eq_false_iff_eq.mpr c73
                  clear c73
                  by_cases c74 : ((x12_31 ++ x164001_39) ++ ((⟨#[58]⟩ : ByteArray) ++ t170)).size + t171.size ≤ 9223372036854775807
                  ·rw [if_pos c74] at H
                   have c74b0 := eq_true c74
                   have c74b1 : decide (((x12_31 ++ x164001_39) ++ ((⟨#[58]⟩ : ByteArray) ++ t170)).size + t171.size ≤ 9223372036854775807) = true := decide_eq_true c74
                   try have c74b2 : (9223372036854775807 < ((x12_31 ++ x164001_39) ++ ((⟨#[58]⟩ : ByteArray) ++ t170)).size + t171.size) = False := eq_false (Nat.not_lt.2 c74)
                   (try have c74z : (9223372036854775807 < x12_31.size + x164001_39.size + (1 + t170.size) + t171.size) = False := eq_false (Nat.not_lt.2 (by have q_ := c74; simp only [ByteArray.size_append] at q_; exact q_)))
                   simp only [Option.some.injEq, Prod.mk.injEq] at H
                   obtain ⟨rfl, rfl, rfl⟩ := H
                   have hnb75 := NB169_162.out
                   have hnc75 := NB162_169.out
                   have hnb76 := NB169_163.out
                   have hnc76 := NB163_169.out
                   have hnb77 := NB169_164.out
                   have hnc77 := NB164_169.out
                   obtain ⟨hcz78_0, hcz78_1, hcz78_2, hcz78_3, hcz78_4, hcz78_5, hcz78_6, hcz78_7, hfz78_0, hfz78_1, hfz78_2, hfz78_3, hfz78_4, hfz78_5, hfz78_6, hfz78_7⟩ := blk8 BK169.out
                   go_wp2_with (first | ((with_reducible refine gate_callee (f := 24) rfl ?_); refine goesL_ (some 59) rfl rfl Tryd.func24 kr_ rfl #[.int .i64 ((rd_T27 l0 t167).f4)] rfl rl_ ?_; (with_reducible refine (strconv_Itoa_24.calls ((rd_T27 l0 t167).f4) t170 _ (gm_ HGL.out (bel_ HB.out)) A69.out).mono ?_); rintro e w79 ⟨rfl, hb⟩; refine ⟨_, rfl, ?_⟩; have n0_ := am_ (blk_below (g := gb162) (o := .cells #[.int .i64 a1_0, .string a1_1] 34 (0, 0)) (blk_ BK162.out) hb); have n1_ := am_ (blk_below (g := gb163) (o := .cells #[.string a2_0, .string x164001_39, .string a2_2, .slice A2_3 l2_3.length c2_3, .slice A2_4 l2_4.length c2_4] 37 (0, 0)) (blk_ BK163.out) hb); have n2_ := am_ (blk_below (g := gb164) (o := .cells #[.int .i64 0, .string (⟨#[]⟩ : ByteArray)] 42 (0, 0)) (blk_ BK164.out) hb); have n3_ := am_ (blk_below (g := gb169) (o := .cells #[.int .i64 ((rd_T27 l0 t167).f0), .string ((rd_T27 l0 t167).f1), .string ((rd_T27 l0 t167).f2), .string ((rd_T27 l0 t167).f3), .int .i64 ((rd_T27 l0 t167).f4), .string ((rd_T27 l0 t167).f5), .bool ((rd_T27 l0 t167).f6), .int .i64 ((rd_T27 l0 t167).f7)] 27 (0, 0)) (blk_ BK169.out) hb); have n4_ := am_ (below_step (bel_ HB.out) hb); clear BK162 BK163 BK164 BK169 HB; have BK162 := n0_; have BK163 := n1_; have BK164 := n2_; have BK169 := n3_; have HB := n4_; clear n0_ n1_ n2_ n3_ n4_; (try clear hb); (try clear hb2); (try clear hk); (try clear hi); obtain ⟨hcz80_0, hcz80_1, hcz80_2, hcz80_3, hcz80_4, hcz80_5, hcz80_6, hcz80_7, hfz80_0, hfz80_1, hfz80_2, hfz80_3, hfz80_4, hfz80_5, hfz80_6, hfz80_7⟩ := blk8 BK169.out; have hnb81 := NB162_163.out; have hnc81 := NB163_162.out; have hnb82 := NB162_164.out; have hnc82 := NB164_162.out; obtain ⟨hcz83_0, hcz83_1, hfz83_0, hfz83_1⟩ := blk2 BK162.out; have hnb84 := NB163_164.out; have hnc84 := NB164_163.out; obtain ⟨hcz85_0, hcz85_1, hcz85_2, hcz85_3, hcz85_4, hfz85_0, hfz85_1, hfz85_2, hfz85_3, hfz85_4⟩ := blk5 BK163.out) | ((with_reducible refine gate_callee (f := 25) rfl ?_); refine goesL_ (some 67) rfl rfl Tryd.func25 kr_ rfl #[.agg #[.int .i64 ((rd_T27 l0 t167).f0), .string ((rd_T27 l0 t167).f1), .string ((rd_T27 l0 t167).f2), .string ((rd_T27 l0 t167).f3), .int .i64 ((rd_T27 l0 t167).f4), .string ((rd_T27 l0 t167).f5), .bool ((rd_T27 l0 t167).f6), .int .i64 ((rd_T27 l0 t167).f7)], .agg #[.int .i64 a1_0, .string a1_1], .string a2_2] rfl rl_ ?_; (with_reducible refine (filter_becomes.calls kj53 ((rd_T27 l0 t167).f0) ((rd_T27 l0 t167).f1) ((rd_T27 l0 t167).f2) ((rd_T27 l0 t167).f3) ((rd_T27 l0 t167).f4) ((rd_T27 l0 t167).f5) ((rd_T27 l0 t167).f6) ((rd_T27 l0 t167).f7) a1_0 a1_1 a2_2 t171 t172 _ A72.out).mono ?_); rintro e w86 ⟨rfl, hb⟩; refine ⟨_, rfl, ?_⟩; have n0_ := am_ (blk_below (g := gb162) (o := .cells #[.int .i64 a1_0, .string a1_1] 34 (0, 0)) (blk_ BK162.out) hb); have n1_ := am_ (blk_below (g := gb163) (o := .cells #[.string a2_0, .string x164001_39, .string a2_2, .slice A2_3 l2_3.length c2_3, .slice A2_4 l2_4.length c2_4] 37 (0, 0)) (blk_ BK163.out) hb); have n2_ := am_ (blk_below (g := gb164) (o := .cells #[.int .i64 0, .string (⟨#[]⟩ : ByteArray)] 42 (0, 0)) (blk_ BK164.out) hb); have n3_ := am_ (blk_below (g := gb169) (o := .cells #[.int .i64 ((rd_T27 l0 t167).f0), .string ((rd_T27 l0 t167).f1), .string ((rd_T27 l0 t167).f2), .string ((rd_T27 l0 t167).f3), .int .i64 ((rd_T27 l0 t167).f4), .string ((rd_T27 l0 t167).f5), .bool ((rd_T27 l0 t167).f6), .int .i64 ((rd_T27 l0 t167).f7)] 27 (0, 0)) (blk_ BK169.out) hb); have n4_ := am_ (below_step (bel_ HB.out) hb); clear BK162 BK163 BK164 BK169 HB; have BK162 := n0_; have BK163 := n1_; have BK164 := n2_; have BK169 := n3_; have HB := n4_; clear n0_ n1_ n2_ n3_ n4_; (try clear hb); (try clear hb2); (try clear hk); (try clear hi); obtain ⟨hcz87_0, hcz87_1, hcz87_2, hcz87_3, hcz87_4, hcz87_5, hcz87_6, hcz87_7, hfz87_0, hfz87_1, hfz87_2, hfz87_3, hfz87_4, hfz87_5, hfz87_6, hfz87_7⟩ := blk8 BK169.out; obtain ⟨hcz88_0, hcz88_1, hfz88_0, hfz88_1⟩ := blk2 BK164.out))
                   refine bodyPost_ret (results_ct rfl _ _ gb164 42 #[.int .i64 ((rd_T27 l0 t167).f7), .string (((x12_31 ++ x164001_39) ++ ((⟨#[58]⟩ : ByteArray) ++ t170)) ++ t171)] (0, 0) _ rfl (by (with_reducible repeat (first | refine blk_drewN ?_ _ | refine blk_drew ?_ | refine blk_alloc ?_ _)); refine blk_put (cs := #[.int .i64 ((rd_T27 l0 t167).f7), .string (⟨#[]⟩ : ByteArray)]) ?_ 1 _ rfl; (with_reducible repeat (first | refine blk_drewN ?_ _ | refine blk_drew ?_ | refine blk_alloc ?_ _)); refine blk_put (cs := #[.int .i64 0, .string (⟨#[]⟩ : ByteArray)]) ?_ 0 _ rfl; (with_reducible repeat (first | refine blk_drewN ?_ _ | refine blk_drew ?_ | refine blk_alloc ?_ _)); exact BK164.out) Tryd.underlying42 rfl kr_) rfl ?_
                   exact ⟨fi_, bel_ HB.out⟩
                  ·rw [if_neg c74] at H
                   exact absurd H (by simp)
                 ·rw [if_neg c73] at H
                  have c73b0 : (t172 == 0) = false := beq_eq_false_iff_ne.mpr c73
                  have c73b1 : (t172 != 0) = true := bne_iff_ne.mpr c73
                  simp only [Option.some.injEq, Prod.mk.injEq] at H
                  obtain ⟨rfl, rfl, rfl⟩ := H
                  have hnb89 := NB169_162.out
                  have hnc89 := NB162_169.out
                  have hnb90 := NB169_163.out
                  have hnc90 := NB163_169.out
                  have hnb91 := NB169_164.out
                  have hnc91 := NB164_169.out
                  obtain ⟨hcz92_0, hcz92_1, hcz92_2, hcz92_3, hcz92_4, hcz92_5, hcz92_6, hcz92_7, hfz92_0, hfz92_1, hfz92_2, hfz92_3, hfz92_4, hfz92_5, hfz92_6, hfz92_7⟩ := blk8 BK169.out
                  go_wp2_with (first | ((with_reducible refine gate_callee (f := 24) rfl ?_); refine goesL_ (some 59) rfl rfl Tryd.func24 kr_ rfl #[.int .i64 ((rd_T27 l0 t167).f4)] rfl rl_ ?_; (with_reducible refine (strconv_Itoa_24.calls ((rd_T27 l0 t167).f4) t170 _ (gm_ HGL.out (bel_ HB.out)) A69.out).mono ?_); rintro e w93 ⟨rfl, hb⟩; refine ⟨_, rfl, ?_⟩; have n0_ := am_ (blk_below (g := gb162) (o := .cells #[.int .i64 a1_0, .string a1_1] 34 (0, 0)) (blk_ BK162.out) hb); have n1_ := am_ (blk_below (g := gb163) (o := .cells #[.string a2_0, .string x164001_39, .string a2_2, .slice A2_3 l2_3.length c2_3, .slice A2_4 l2_4.length c2_4] 37 (0, 0)) (blk_ BK163.out) hb); have n2_ := am_ (blk_below (g := gb164) (o := .cells #[.int .i64 0, .string (⟨#[]⟩ : ByteArray)] 42 (0, 0)) (blk_ BK164.out) hb); have n3_ := am_ (blk_below (g := gb169) (o := .cells #[.int .i64 ((rd_T27 l0 t167).f0), .string ((rd_T27 l0 t167).f1), .string ((rd_T27 l0 t167).f2), .string ((rd_T27 l0 t167).f3), .int .i64 ((rd_T27 l0 t167).f4), .string ((rd_T27 l0 t167).f5), .bool ((rd_T27 l0 t167).f6), .int .i64 ((rd_T27 l0 t167).f7)] 27 (0, 0)) (blk_ BK169.out) hb); have n4_ := am_ (below_step (bel_ HB.out) hb); clear BK162 BK163 BK164 BK169 HB; have BK162 := n0_; have BK163 := n1_; have BK164 := n2_; have BK169 := n3_; have HB := n4_; clear n0_ n1_ n2_ n3_ n4_; (try clear hb); (try clear hb2); (try clear hk); (try clear hi); obtain ⟨hcz94_0, hcz94_1, hcz94_2, hcz94_3, hcz94_4, hcz94_5, hcz94_6, hcz94_7, hfz94_0, hfz94_1, hfz94_2, hfz94_3, hfz94_4, hfz94_5, hfz94_6, hfz94_7⟩ := blk8 BK169.out; have hnb95 := NB162_163.out; have hnc95 := NB163_162.out; have hnb96 := NB162_164.out; have hnc96 := NB164_162.out; obtain ⟨hcz97_0, hcz97_1, hfz97_0, hfz97_1⟩ := blk2 BK162.out; have hnb98 := NB163_164.out; have hnc98 := NB164_163.out; obtain ⟨hcz99_0, hcz99_1, hcz99_2, hcz99_3, hcz99_4, hfz99_0, hfz99_1, hfz99_2, hfz99_3, hfz99_4⟩ := blk5 BK163.out) | ((with_reducible refine gate_callee (f := 25) rfl ?_); refine goesL_ (some 67) rfl rfl Tryd.func25 kr_ rfl #[.agg #[.int .i64 ((rd_T27 l0 t167).f0), .string ((rd_T27 l0 t167).f1), .string ((rd_T27 l0 t167).f2), .string ((rd_T27 l0 t167).f3), .int .i64 ((rd_T27 l0 t167).f4), .string ((rd_T27 l0 t167).f5), .bool ((rd_T27 l0 t167).f6), .int .i64 ((rd_T27 l0 t167).f7)], .agg #[.int .i64 a1_0, .string a1_1], .string a2_2] rfl rl_ ?_; (with_reducible refine (filter_becomes.calls kj53 ((rd_T27 l0 t167).f0) ((rd_T27 l0 t167).f1) ((rd_T27 l0 t167).f2) ((rd_T27 l0 t167).f3) ((rd_T27 l0 t167).f4) ((rd_T27 l0 t167).f5) ((rd_T27 l0 t167).f6) ((rd_T27 l0 t167).f7) a1_0 a1_1 a2_2 t171 t172 _ A72.out).mono ?_); rintro e w100 ⟨rfl, hb⟩; refine ⟨_, rfl, ?_⟩; have n0_ := am_ (blk_below (g := gb162) (o := .cells #[.int .i64 a1_0, .string a1_1] 34 (0, 0)) (blk_ BK162.out) hb); have n1_ := am_ (blk_below (g := gb163) (o := .cells #[.string a2_0, .string x164001_39, .string a2_2, .slice A2_3 l2_3.length c2_3, .slice A2_4 l2_4.length c2_4] 37 (0, 0)) (blk_ BK163.out) hb); have n2_ := am_ (blk_below (g := gb164) (o := .cells #[.int .i64 0, .string (⟨#[]⟩ : ByteArray)] 42 (0, 0)) (blk_ BK164.out) hb); have n3_ := am_ (blk_below (g := gb169) (o := .cells #[.int .i64 ((rd_T27 l0 t167).f0), .string ((rd_T27 l0 t167).f1), .string ((rd_T27 l0 t167).f2), .string ((rd_T27 l0 t167).f3), .int .i64 ((rd_T27 l0 t167).f4), .string ((rd_T27 l0 t167).f5), .bool ((rd_T27 l0 t167).f6), .int .i64 ((rd_T27 l0 t167).f7)] 27 (0, 0)) (blk_ BK169.out) hb); have n4_ := am_ (below_step (bel_ HB.out) hb); clear BK162 BK163 BK164 BK169 HB; have BK162 := n0_; have BK163 := n1_; have BK164 := n2_; have BK169 := n3_; have HB := n4_; clear n0_ n1_ n2_ n3_ n4_; (try clear hb); (try clear hb2); (try clear hk); (try clear hi); obtain ⟨hcz101_0, hcz101_1, hfz101_0, hfz101_1⟩ := blk2 BK164.out))
                  refine bodyPost_ret (results_ct rfl _ _ gb164 42 #[.int .i64 0, .string (⟨#[]⟩ : ByteArray)] (0, 0) _ rfl (by (with_reducible repeat (first | refine blk_drewN ?_ _ | refine blk_drew ?_ | refine blk_alloc ?_ _)); refine blk_put (cs := #[.int .i64 0, .string (⟨#[]⟩ : ByteArray)]) ?_ 1 _ rfl; (with_reducible repeat (first | refine blk_drewN ?_ _ | refine blk_drew ?_ | refine blk_alloc ?_ _)); refine blk_put (cs := #[.int .i64 0, .string (⟨#[]⟩ : ByteArray)]) ?_ 0 _ rfl; (with_reducible repeat (first | refine blk_drewN ?_ _ | refine blk_drew ?_ | refine blk_alloc ?_ _)); exact BK164.out) Tryd.underlying42 rfl kr_) rfl ?_
                  exact ⟨fi_, bel_ HB.out⟩
                ·rw [if_neg c71] at H
                 exact absurd H (by simp)
               ·rw [if_neg c70] at H
                exact absurd H (by simp)
              ·replace c68 := Bool.eq_false_iff.mpr c68
               subst c68
               have H1 : ((filter_becomes.f kj53 ((rd_T27 l0 t167).f0) ((rd_T27 l0 t167).f1) ((rd_T27 l0 t167).f2) ((rd_T27 l0 t167).f3) ((rd_T27 l0 t167).f4) ((rd_T27 l0 t167).f5) ((rd_T27 l0 t167).f6) ((rd_T27 l0 t167).f7) a1_0 a1_1 a2_2).bind fun bt173 => (if bt173.2 = 0 then (if (x12_31 ++ x164001_39).size + bt173.1.size ≤ 9223372036854775807 then (some (((rd_T27 l0 t167).f7), (x12_31 ++ x164001_39) ++ bt173.1, 0)) else (none)) else (some (0, (⟨#[]⟩ : ByteArray), bt173.2)))) = some (r1, r2, r3) := by rw [if_neg (show ¬ (false = true) by decide)] at H; exact H
               clear H
               have H := H1
               clear H1
               replace H := Option.bind_eq_some_iff.mp H
               obtain ⟨⟨t173, t174⟩, A1020, H⟩ := H
               replace H : (if t174 = 0 then (if (x12_31 ++ x164001_39).size + t173.size ≤ 9223372036854775807 then (some (((rd_T27 l0 t167).f7), (x12_31 ++ x164001_39) ++ t173, 0)) else (none)) else (some (0, (⟨#[]⟩ : ByteArray), t174))) = some (r1, r2, r3) := H
               have A102 := Aside0.mk A1020
               clear A1020
               by_cases c103 : t174 = 0
               ·rw [if_pos c103] at H
                have c103b0 : (t174 == 0) = true := beq_iff_eq.mpr c103
                have c103b1 : (t174 != 0) = false := bne_eq_false_iff_eq.mpr c103
                clear c103
                by_cases c104 : (x12_31 ++ x164001_39).size + t173.size ≤ 9223372036854775807
                ·rw [if_pos c104] at H
                 have c104b0 := eq_true c104
                 have c104b1 : decide ((x12_31 ++ x164001_39).size + t173.size ≤ 9223372036854775807) = true := decide_eq_true c104
                 try have c104b2 : (9223372036854775807 < (x12_31 ++ x164001_39).size + t173.size) = False := eq_false (Nat.not_lt.2 c104)
                 (try have c104z : (9223372036854775807 < x12_31.size + x164001_39.size + t173.size) = False := eq_false (Nat.not_lt.2 (by have q_ := c104; simp only [ByteArray.size_append] at q_; exact q_)))
                 simp only [Option.some.injEq, Prod.mk.injEq] at H
                 obtain ⟨rfl, rfl, rfl⟩ := H
                 have hnb105 := NB169_162.out
                 have hnc105 := NB162_169.out
                 have hnb106 := NB169_163.out
                 have hnc106 := NB163_169.out
                 have hnb107 := NB169_164.out
                 have hnc107 := NB164_169.out
                 obtain ⟨hcz108_0, hcz108_1, hcz108_2, hcz108_3, hcz108_4, hcz108_5, hcz108_6, hcz108_7, hfz108_0, hfz108_1, hfz108_2, hfz108_3, hfz108_4, hfz108_5, hfz108_6, hfz108_7⟩ := blk8 BK169.out
                 have hnb109 := NB162_163.out
                 have hnc109 := NB163_162.out
                 have hnb110 := NB162_164.out
                 have hnc110 := NB164_162.out
                 obtain ⟨hcz111_0, hcz111_1, hfz111_0, hfz111_1⟩ := blk2 BK162.out
                 have hnb112 := NB163_164.out
                 have hnc112 := NB164_163.out
                 obtain ⟨hcz113_0, hcz113_1, hcz113_2, hcz113_3, hcz113_4, hfz113_0, hfz113_1, hfz113_2, hfz113_3, hfz113_4⟩ := blk5 BK163.out
                 go_wp2_with (first | ((with_reducible refine gate_callee (f := 25) rfl ?_); refine goesL_ (some 67) rfl rfl Tryd.func25 kr_ rfl #[.agg #[.int .i64 ((rd_T27 l0 t167).f0), .string ((rd_T27 l0 t167).f1), .string ((rd_T27 l0 t167).f2), .string ((rd_T27 l0 t167).f3), .int .i64 ((rd_T27 l0 t167).f4), .string ((rd_T27 l0 t167).f5), .bool ((rd_T27 l0 t167).f6), .int .i64 ((rd_T27 l0 t167).f7)], .agg #[.int .i64 a1_0, .string a1_1], .string a2_2] rfl rl_ ?_; (with_reducible refine (filter_becomes.calls kj53 ((rd_T27 l0 t167).f0) ((rd_T27 l0 t167).f1) ((rd_T27 l0 t167).f2) ((rd_T27 l0 t167).f3) ((rd_T27 l0 t167).f4) ((rd_T27 l0 t167).f5) ((rd_T27 l0 t167).f6) ((rd_T27 l0 t167).f7) a1_0 a1_1 a2_2 t173 t174 _ A102.out).mono ?_); rintro e w114 ⟨rfl, hb⟩; refine ⟨_, rfl, ?_⟩; have n0_ := am_ (blk_below (g := gb162) (o := .cells #[.int .i64 a1_0, .string a1_1] 34 (0, 0)) (blk_ BK162.out) hb); have n1_ := am_ (blk_below (g := gb163) (o := .cells #[.string a2_0, .string x164001_39, .string a2_2, .slice A2_3 l2_3.length c2_3, .slice A2_4 l2_4.length c2_4] 37 (0, 0)) (blk_ BK163.out) hb); have n2_ := am_ (blk_below (g := gb164) (o := .cells #[.int .i64 0, .string (⟨#[]⟩ : ByteArray)] 42 (0, 0)) (blk_ BK164.out) hb); have n3_ := am_ (blk_below (g := gb169) (o := .cells #[.int .i64 ((rd_T27 l0 t167).f0), .string ((rd_T27 l0 t167).f1), .string ((rd_T27 l0 t167).f2), .string ((rd_T27 l0 t167).f3), .int .i64 ((rd_T27 l0 t167).f4), .string ((rd_T27 l0 t167).f5), .bool ((rd_T27 l0 t167).f6), .int .i64 ((rd_T27 l0 t167).f7)] 27 (0, 0)) (blk_ BK169.out) hb); have n4_ := am_ (below_step (bel_ HB.out) hb); clear BK162 BK163 BK164 BK169 HB; have BK162 := n0_; have BK163 := n1_; have BK164 := n2_; have BK169 := n3_; have HB := n4_; clear n0_ n1_ n2_ n3_ n4_; (try clear hb); (try clear hb2); (try clear hk); (try clear hi); obtain ⟨hcz115_0, hcz115_1, hcz115_2, hcz115_3, hcz115_4, hcz115_5, hcz115_6, hcz115_7, hfz115_0, hfz115_1, hfz115_2, hfz115_3, hfz115_4, hfz115_5, hfz115_6, hfz115_7⟩ := blk8 BK169.out; obtain ⟨hcz116_0, hcz116_1, hfz116_0, hfz116_1⟩ := blk2 BK164.out))
                 refine bodyPost_ret (results_ct rfl _ _ gb164 42 #[.int .i64 ((rd_T27 l0 t167).f7), .string ((x12_31 ++ x164001_39) ++ t173)] (0, 0) _ rfl (by (with_reducible repeat (first | refine blk_drewN ?_ _ | refine blk_drew ?_ | refine blk_alloc ?_ _)); refine blk_put (cs := #[.int .i64 ((rd_T27 l0 t167).f7), .string (⟨#[]⟩ : ByteArray)]) ?_ 1 _ rfl; (with_reducible repeat (first | refine blk_drewN ?_ _ | refine blk_drew ?_ | refine blk_alloc ?_ _)); refine blk_put (cs := #[.int .i64 0, .string (⟨#[]⟩ : ByteArray)]) ?_ 0 _ rfl; (with_reducible repeat (first | refine blk_drewN ?_ _ | refine blk_drew ?_ | refine blk_alloc ?_ _)); exact BK164.out) Tryd.underlying42 rfl kr_) rfl ?_
                 exact ⟨fi_, bel_ HB.out⟩
                ·rw [if_neg c104] at H
                 exact absurd H (by simp)
               ·rw [if_neg c103] at H
                have c103b0 : (t174 == 0) = false := beq_eq_false_iff_ne.mpr c103
                have c103b1 : (t174 != 0) = true := bne_iff_ne.mpr c103
                simp only [Option.some.injEq, Prod.mk.injEq] at H
                obtain ⟨rfl, rfl, rfl⟩ := H
                have hnb117 := NB169_162.out
                have hnc117 := NB162_169.out
                have hnb118 := NB169_163.out
                have hnc118 := NB163_169.out
                have hnb119 := NB169_164.out
                have hnc119 := NB164_169.out
                obtain ⟨hcz120_0, hcz120_1, hcz120_2, hcz120_3, hcz120_4, hcz120_5, hcz120_6, hcz120_7, hfz120_0, hfz120_1, hfz120_2, hfz120_3, hfz120_4, hfz120_5, hfz120_6, hfz120_7⟩ := blk8 BK169.out
                have hnb121 := NB162_163.out
                have hnc121 := NB163_162.out
                have hnb122 := NB162_164.out
                have hnc122 := NB164_162.out
                obtain ⟨hcz123_0, hcz123_1, hfz123_0, hfz123_1⟩ := blk2 BK162.out
                have hnb124 := NB163_164.out
                have hnc124 := NB164_163.out
                obtain ⟨hcz125_0, hcz125_1, hcz125_2, hcz125_3, hcz125_4, hfz125_0, hfz125_1, hfz125_2, hfz125_3, hfz125_4⟩ := blk5 BK163.out
                go_wp2_with (first | ((with_reducible refine gate_callee (f := 25) rfl ?_); refine goesL_ (some 67) rfl rfl Tryd.func25 kr_ rfl #[.agg #[.int .i64 ((rd_T27 l0 t167).f0), .string ((rd_T27 l0 t167).f1), .string ((rd_T27 l0 t167).f2), .string ((rd_T27 l0 t167).f3), .int .i64 ((rd_T27 l0 t167).f4), .string ((rd_T27 l0 t167).f5), .bool ((rd_T27 l0 t167).f6), .int .i64 ((rd_T27 l0 t167).f7)], .agg #[.int .i64 a1_0, .string a1_1], .string a2_2] rfl rl_ ?_; (with_reducible refine (filter_becomes.calls kj53 ((rd_T27 l0 t167).f0) ((rd_T27 l0 t167).f1) ((rd_T27 l0 t167).f2) ((rd_T27 l0 t167).f3) ((rd_T27 l0 t167).f4) ((rd_T27 l0 t167).f5) ((rd_T27 l0 t167).f6) ((rd_T27 l0 t167).f7) a1_0 a1_1 a2_2 t173 t174 _ A102.out).mono ?_); rintro e w126 ⟨rfl, hb⟩; refine ⟨_, rfl, ?_⟩; have n0_ := am_ (blk_below (g := gb162) (o := .cells #[.int .i64 a1_0, .string a1_1] 34 (0, 0)) (blk_ BK162.out) hb); have n1_ := am_ (blk_below (g := gb163) (o := .cells #[.string a2_0, .string x164001_39, .string a2_2, .slice A2_3 l2_3.length c2_3, .slice A2_4 l2_4.length c2_4] 37 (0, 0)) (blk_ BK163.out) hb); have n2_ := am_ (blk_below (g := gb164) (o := .cells #[.int .i64 0, .string (⟨#[]⟩ : ByteArray)] 42 (0, 0)) (blk_ BK164.out) hb); have n3_ := am_ (blk_below (g := gb169) (o := .cells #[.int .i64 ((rd_T27 l0 t167).f0), .string ((rd_T27 l0 t167).f1), .string ((rd_T27 l0 t167).f2), .string ((rd_T27 l0 t167).f3), .int .i64 ((rd_T27 l0 t167).f4), .string ((rd_T27 l0 t167).f5), .bool ((rd_T27 l0 t167).f6), .int .i64 ((rd_T27 l0 t167).f7)] 27 (0, 0)) (blk_ BK169.out) hb); have n4_ := am_ (below_step (bel_ HB.out) hb); clear BK162 BK163 BK164 BK169 HB; have BK162 := n0_; have BK163 := n1_; have BK164 := n2_; have BK169 := n3_; have HB := n4_; clear n0_ n1_ n2_ n3_ n4_; (try clear hb); (try clear hb2); (try clear hk); (try clear hi); obtain ⟨hcz127_0, hcz127_1, hfz127_0, hfz127_1⟩ := blk2 BK164.out))
                refine bodyPost_ret (results_ct rfl _ _ gb164 42 #[.int .i64 0, .string (⟨#[]⟩ : ByteArray)] (0, 0) _ rfl (by (with_reducible repeat (first | refine blk_drewN ?_ _ | refine blk_drew ?_ | refine blk_alloc ?_ _)); refine blk_put (cs := #[.int .i64 0, .string (⟨#[]⟩ : ByteArray)]) ?_ 1 _ rfl; (with_reducible repeat (first | refine blk_drewN ?_ _ | refine blk_drew ?_ | refine blk_alloc ?_ _)); refine blk_put (cs := #[.int .i64 0, .string (⟨#[]⟩ : ByteArray)]) ?_ 0 _ rfl; (with_reducible repeat (first | refine blk_drewN ?_ _ | refine blk_drew ?_ | refine blk_alloc ?_ _)); exact BK164.out) Tryd.underlying42 rfl kr_) rfl ?_
                exact ⟨fi_, bel_ HB.out⟩
           ·rw [if_neg c53] at H
            exact absurd H (by simp)
      ·rw [if_neg c31] at H
       exact absurd H (by simp)
     ·rw [if_neg c30] at H
      exact absurd H (by simp)

end Go.Proofs.YtfdopmjgiakcdaaDoor.P
