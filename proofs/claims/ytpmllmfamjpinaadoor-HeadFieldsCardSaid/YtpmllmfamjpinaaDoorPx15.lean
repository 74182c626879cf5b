-- written by wip/tool/hprint.py of this repo: the kit's print, with contracts by hand joined; Lean checks it.
import Derived.Test.YtpmllmfamjpinaaDoorPx0
import Derived.Test.YtpmllmfamjpinaaDoorPx5
import Derived.Test.YtpmllmfamjpinaaDoorPx6
import Derived.Test.YtpmllmfamjpinaaDoorPx7
import Derived.Test.YtpmllmfamjpinaaDoorPx10
import Derived.Test.YtpmllmfamjpinaaDoorPx12
import Derived.Test.YtpmllmfamjpinaaDoorPx14
namespace Go.Proofs.YtpmllmfamjpinaaDoor.P
open Go.RowKit Go.Proofs.YtpmllmfamjpinaaDoorW.PrintWords Go.Proofs.YtpmllmfamjpinaaDoorW.PrintLast Go.Proofs.YtpmllmfamjpinaaDoorW.PrintMore
attribute [local go_sem] max2_int min2_int max_two min_two max_three min_three max_four min_four   -- for this text's walks alone
set_option linter.unusedVariables false
set_option linter.unusedSimpArgs false

/-! ### tolllaw18_HeadFields: function 6 -/
mutual
def tolllaw18_HeadFields.j0 : Nat → ByteArray → ByteArray → ByteArray → Bool → ByteArray → ByteArray → ByteArray → List (S35) → List (S35) → Option (Bool)
 | 0, _, _, _, _, _, _, _, _, _ => none
 | k + 1, x1, x2, x7, x27, x394000, x394001, x394002, x394003, x394004 => if x27 = true then ((tolllaw18_awake.f k).bind fun t405 => (some t405)) else ((tolllaw01_Few.f x1).bind fun t406 => ((tolllaw01_Few.f x2).bind fun t407 => (if 0 ≤ (wrap64 ((x7.size : Int) - 2)) then (if (wrap64 ((x7.size : Int) - 2)) ≤ (x7.size : Int) then (if (x7.extract 0 ((wrap64 ((x7.size : Int) - 2)) : Int).toNat).size + t406.size ≤ 9223372036854775807 then (if ((x7.extract 0 ((wrap64 ((x7.size : Int) - 2)) : Int).toNat) ++ t406).size + 1 ≤ 9223372036854775807 then (if (((x7.extract 0 ((wrap64 ((x7.size : Int) - 2)) : Int).toNat) ++ t406) ++ (⟨#[58]⟩ : ByteArray)).size + t407.size ≤ 9223372036854775807 then (if ((((x7.extract 0 ((wrap64 ((x7.size : Int) - 2)) : Int).toNat) ++ t406) ++ (⟨#[58]⟩ : ByteArray)) ++ t407).size + 4 ≤ 9223372036854775807 then (tolllaw18_HeadFields.j1 k t406 t407 (((((x7.extract 0 ((wrap64 ((x7.size : Int) - 2)) : Int).toNat) ++ t406) ++ (⟨#[58]⟩ : ByteArray)) ++ t407) ++ (⟨#[13, 10, 13, 10]⟩ : ByteArray)) x394000 x394001 x394002 x394003 x394004) else (none)) else (none)) else (none)) else (none)) else (none)) else (none))))
def tolllaw18_HeadFields.j1 : Nat → ByteArray → ByteArray → ByteArray → ByteArray → ByteArray → ByteArray → List (S35) → List (S35) → Option (Bool)
 | 0, _, _, _, _, _, _, _, _ => none
 | k + 1, x1, x2, x9, x394000, x394001, x394002, x394003, x394004 => (head_Parse.f k x9).bind fun bt408 => ((some (([] : List (S35)) : List (S35))).bind fun y421 => (if y421.length + x394004.length < 4398046511104 then ((some (y421 ++ x394004 : List (S35))).bind fun y424 => (if y424.length < 4398046511104 then ((some (y424 ++ [(⟨x1, x2⟩ : S35)] : List (S35))).bind fun y427 => ((tollref05_Token.f k x1).bind fun t430 => (if t430 = true then ((tollref05_Value.f k x2).bind fun t431 => (if t431 = true then (if (y427.length : Int) > 30 then (tolllaw18_HeadFields.j2 k x9 bt408.2.2.2.2.2.1 bt408.2.2.2.2.2.2 true bt408.1 bt408.2.1 bt408.2.2.1 bt408.2.2.2.1 bt408.2.2.2.2.1 x394000 x394001 x394002 x394003 y427) else (if (x9.size : Int) > 1000 then (tolllaw18_HeadFields.j2 k x9 bt408.2.2.2.2.2.1 bt408.2.2.2.2.2.2 true bt408.1 bt408.2.1 bt408.2.2.1 bt408.2.2.2.1 bt408.2.2.2.2.1 x394000 x394001 x394002 x394003 y427) else ((tollref05_Same.f k x1 (⟨#[104, 111, 115, 116]⟩ : ByteArray)).bind fun t432 => (tolllaw18_HeadFields.j2 k x9 bt408.2.2.2.2.2.1 bt408.2.2.2.2.2.2 t432 bt408.1 bt408.2.1 bt408.2.2.1 bt408.2.2.2.1 bt408.2.2.2.2.1 x394000 x394001 x394002 x394003 y427)))) else (tolllaw18_HeadFields.j2 k x9 bt408.2.2.2.2.2.1 bt408.2.2.2.2.2.2 true bt408.1 bt408.2.1 bt408.2.2.1 bt408.2.2.2.1 bt408.2.2.2.2.1 x394000 x394001 x394002 x394003 y427))) else (tolllaw18_HeadFields.j2 k x9 bt408.2.2.2.2.2.1 bt408.2.2.2.2.2.2 true bt408.1 bt408.2.1 bt408.2.2.1 bt408.2.2.2.1 bt408.2.2.2.2.1 x394000 x394001 x394002 x394003 y427)))) else (none))) else (none)))
def tolllaw18_HeadFields.j2 : Nat → ByteArray → Int → Int → Bool → ByteArray → ByteArray → ByteArray → List (S35) → List (S35) → ByteArray → ByteArray → ByteArray → List (S35) → List (S35) → Option (Bool)
 | 0, _, _, _, _, _, _, _, _, _, _, _, _, _, _ => none
 | k + 1, x9, x11, x12, x83, x420000, x420001, x420002, x420003, x420004, x421000, x421001, x421002, x421003, x421004 => if x83 = true then ((tolllaw18_awake.f k).bind fun t433 => (some t433)) else ((tollref07_SameAsk.f k x420000 x420001 x420002 x420003 x420004 x421000 x421001 x421002 x421003 x421004).bind fun t434 => (if t434 = true then (if x11 = (x9.size : Int) then (if x12 = 0 then ((tolllaw18_awake.f k).bind fun t435 => (some t435)) else (none)) else (none)) else (none)))
end
def tolllaw18_HeadFields.f (k : Nat) (a0_0 : ByteArray) (a0_1 : ByteArray) (a0_2 : ByteArray) (l0_3 : List (S35)) (l0_4 : List (S35)) (a1 : ByteArray) (a2 : ByteArray) : Option (Bool) := (tolllaw06_Asked.f k a0_0 a0_1 a0_2 l0_3 l0_4).bind fun bt394 => ((head_Lay.f k bt394.1 bt394.2.1 bt394.2.2.1 bt394.2.2.2.1 bt394.2.2.2.2).bind fun bt403 => (if bt403.2 = 0 then (tolllaw18_HeadFields.j0 k a1 a2 bt403.1 (decide ((bt403.1.size : Int) < 4)) bt394.1 bt394.2.1 bt394.2.2.1 bt394.2.2.2.1 bt394.2.2.2.2) else (tolllaw18_HeadFields.j0 k a1 a2 bt403.1 true bt394.1 bt394.2.1 bt394.2.2.1 bt394.2.2.2.1 bt394.2.2.2.2)))
theorem tolllaw18_HeadFields.mono_l : ∀ k, (∀ y0 y1 y2 y3 y4 y5 y6 y7 y8, LeO (tolllaw18_HeadFields.j0 k y0 y1 y2 y3 y4 y5 y6 y7 y8) (tolllaw18_HeadFields.j0 (k + 1) y0 y1 y2 y3 y4 y5 y6 y7 y8)) ∧ (∀ y0 y1 y2 y3 y4 y5 y6 y7, LeO (tolllaw18_HeadFields.j1 k y0 y1 y2 y3 y4 y5 y6 y7) (tolllaw18_HeadFields.j1 (k + 1) y0 y1 y2 y3 y4 y5 y6 y7)) ∧ (∀ y0 y1 y2 y3 y4 y5 y6 y7 y8 y9 y10 y11 y12 y13, LeO (tolllaw18_HeadFields.j2 k y0 y1 y2 y3 y4 y5 y6 y7 y8 y9 y10 y11 y12 y13) (tolllaw18_HeadFields.j2 (k + 1) y0 y1 y2 y3 y4 y5 y6 y7 y8 y9 y10 y11 y12 y13))
 | 0 => ⟨fun _ _ _ _ _ _ _ _ _ r h => by simp [tolllaw18_HeadFields.j0] at h, fun _ _ _ _ _ _ _ _ r h => by simp [tolllaw18_HeadFields.j1] at h, fun _ _ _ _ _ _ _ _ _ _ _ _ _ _ r h => by simp [tolllaw18_HeadFields.j2] at h⟩
 | k + 1 => by
  obtain ⟨ih0, ih1, ih2⟩ := tolllaw18_HeadFields.mono_l k
  refine ⟨?_, ?_, ?_⟩
  ·intro y0 y1 y2 y3 y4 y5 y6 y7 y8
   unfold tolllaw18_HeadFields.j0
   repeat' first
   | (with_reducible exact ih0 _ _ _ _ _ _ _ _ _)
   | (with_reducible exact ih1 _ _ _ _ _ _ _ _)
   | (with_reducible exact ih2 _ _ _ _ _ _ _ _ _ _ _ _ _ _)
   | (with_reducible exact head_Lay.mono _ _ _ _ _ _)
   | (with_reducible exact head_Parse.mono _ _)
   | (with_reducible exact tolllaw06_Asked.mono _ _ _ _ _ _)
   | (with_reducible exact tolllaw18_awake.mono _)
   | (with_reducible exact tollref05_Same.mono _ _ _)
   | (with_reducible exact tollref05_Token.mono _ _)
   | (with_reducible exact tollref05_Value.mono _ _)
   | (with_reducible exact tollref07_SameAsk.mono _ _ _ _ _ _ _ _ _ _ _)
   | (with_reducible exact LeO.refl _)
   | (with_reducible exact LeO.none _)
   | (with_reducible refine LeO.ite ?_ ?_)
   | (with_reducible refine LeO.bind ?_ (fun _ => ?_))
   | exact ih0 _ _ _ _ _ _ _ _ _
   | exact ih1 _ _ _ _ _ _ _ _
   | exact ih2 _ _ _ _ _ _ _ _ _ _ _ _ _ _
   | exact head_Lay.mono _ _ _ _ _ _
   | exact head_Parse.mono _ _
   | exact tolllaw06_Asked.mono _ _ _ _ _ _
   | exact tolllaw18_awake.mono _
   | exact tollref05_Same.mono _ _ _
   | exact tollref05_Token.mono _ _
   | exact tollref05_Value.mono _ _
   | exact tollref07_SameAsk.mono _ _ _ _ _ _ _ _ _ _ _
   | exact LeO.none _
   | refine LeO.ite ?_ ?_
   | refine LeO.bind ?_ (fun _ => ?_)
  ·intro y0 y1 y2 y3 y4 y5 y6 y7
   unfold tolllaw18_HeadFields.j1
   repeat' first
   | (with_reducible exact ih0 _ _ _ _ _ _ _ _ _)
   | (with_reducible exact ih1 _ _ _ _ _ _ _ _)
   | (with_reducible exact ih2 _ _ _ _ _ _ _ _ _ _ _ _ _ _)
   | (with_reducible exact head_Lay.mono _ _ _ _ _ _)
   | (with_reducible exact head_Parse.mono _ _)
   | (with_reducible exact tolllaw06_Asked.mono _ _ _ _ _ _)
   | (with_reducible exact tolllaw18_awake.mono _)
   | (with_reducible exact tollref05_Same.mono _ _ _)
   | (with_reducible exact tollref05_Token.mono _ _)
   | (with_reducible exact tollref05_Value.mono _ _)
   | (with_reducible exact tollref07_SameAsk.mono _ _ _ _ _ _ _ _ _ _ _)
   | (with_reducible exact LeO.refl _)
   | (with_reducible exact LeO.none _)
   | (with_reducible refine LeO.ite ?_ ?_)
   | (with_reducible refine LeO.bind ?_ (fun _ => ?_))
   | exact ih0 _ _ _ _ _ _ _ _ _
   | exact ih1 _ _ _ _ _ _ _ _
   | exact ih2 _ _ _ _ _ _ _ _ _ _ _ _ _ _
   | exact head_Lay.mono _ _ _ _ _ _
   | exact head_Parse.mono _ _
   | exact tolllaw06_Asked.mono _ _ _ _ _ _
   | exact tolllaw18_awake.mono _
   | exact tollref05_Same.mono _ _ _
   | exact tollref05_Token.mono _ _
   | exact tollref05_Value.mono _ _
   | exact tollref07_SameAsk.mono _ _ _ _ _ _ _ _ _ _ _
   | exact LeO.none _
   | refine LeO.ite ?_ ?_
   | refine LeO.bind ?_ (fun _ => ?_)
  ·intro y0 y1 y2 y3 y4 y5 y6 y7 y8 y9 y10 y11 y12 y13
   unfold tolllaw18_HeadFields.j2
   repeat' first
   | (with_reducible exact ih0 _ _ _ _ _ _ _ _ _)
   | (with_reducible exact ih1 _ _ _ _ _ _ _ _)
   | (with_reducible exact ih2 _ _ _ _ _ _ _ _ _ _ _ _ _ _)
   | (with_reducible exact head_Lay.mono _ _ _ _ _ _)
   | (with_reducible exact head_Parse.mono _ _)
   | (with_reducible exact tolllaw06_Asked.mono _ _ _ _ _ _)
   | (with_reducible exact tolllaw18_awake.mono _)
   | (with_reducible exact tollref05_Same.mono _ _ _)
   | (with_reducible exact tollref05_Token.mono _ _)
   | (with_reducible exact tollref05_Value.mono _ _)
   | (with_reducible exact tollref07_SameAsk.mono _ _ _ _ _ _ _ _ _ _ _)
   | (with_reducible exact LeO.refl _)
   | (with_reducible exact LeO.none _)
   | (with_reducible refine LeO.ite ?_ ?_)
   | (with_reducible refine LeO.bind ?_ (fun _ => ?_))
   | exact ih0 _ _ _ _ _ _ _ _ _
   | exact ih1 _ _ _ _ _ _ _ _
   | exact ih2 _ _ _ _ _ _ _ _ _ _ _ _ _ _
   | exact head_Lay.mono _ _ _ _ _ _
   | exact head_Parse.mono _ _
   | exact tolllaw06_Asked.mono _ _ _ _ _ _
   | exact tolllaw18_awake.mono _
   | exact tollref05_Same.mono _ _ _
   | exact tollref05_Token.mono _ _
   | exact tollref05_Value.mono _ _
   | exact tollref07_SameAsk.mono _ _ _ _ _ _ _ _ _ _ _
   | exact LeO.none _
   | refine LeO.ite ?_ ?_
   | refine LeO.bind ?_ (fun _ => ?_)
theorem tolllaw18_HeadFields.mono : ∀ a0 a1 a2 a3 a4 a5 a6 k, LeO (tolllaw18_HeadFields.f k a0 a1 a2 a3 a4 a5 a6) (tolllaw18_HeadFields.f (k + 1) a0 a1 a2 a3 a4 a5 a6) := by
 intro a0 a1 a2 a3 a4 a5 a6 k
 obtain ⟨ih0, ih1, ih2⟩ := tolllaw18_HeadFields.mono_l k
 unfold tolllaw18_HeadFields.f
 repeat' first
   | (with_reducible exact ih0 _ _ _ _ _ _ _ _ _)
   | (with_reducible exact ih1 _ _ _ _ _ _ _ _)
   | (with_reducible exact ih2 _ _ _ _ _ _ _ _ _ _ _ _ _ _)
   | (with_reducible exact head_Lay.mono _ _ _ _ _ _)
   | (with_reducible exact head_Parse.mono _ _)
   | (with_reducible exact tolllaw06_Asked.mono _ _ _ _ _ _)
   | (with_reducible exact tolllaw18_awake.mono _)
   | (with_reducible exact tollref05_Same.mono _ _ _)
   | (with_reducible exact tollref05_Token.mono _ _)
   | (with_reducible exact tollref05_Value.mono _ _)
   | (with_reducible exact tollref07_SameAsk.mono _ _ _ _ _ _ _ _ _ _ _)
   | (with_reducible exact LeO.refl _)
   | (with_reducible exact LeO.none _)
   | (with_reducible refine LeO.ite ?_ ?_)
   | (with_reducible refine LeO.bind ?_ (fun _ => ?_))
   | exact ih0 _ _ _ _ _ _ _ _ _
   | exact ih1 _ _ _ _ _ _ _ _
   | exact ih2 _ _ _ _ _ _ _ _ _ _ _ _ _ _
   | exact head_Lay.mono _ _ _ _ _ _
   | exact head_Parse.mono _ _
   | exact tolllaw06_Asked.mono _ _ _ _ _ _
   | exact tolllaw18_awake.mono _
   | exact tollref05_Same.mono _ _ _
   | exact tollref05_Token.mono _ _
   | exact tollref05_Value.mono _ _
   | exact tollref07_SameAsk.mono _ _ _ _ _ _ _ _ _ _ _
   | exact LeO.none _
   | refine LeO.ite ?_ ?_
   | refine LeO.bind ?_ (fun _ => ?_)
set_option maxHeartbeats 6000000 in
set_option maxRecDepth 100000 in
theorem tolllaw18_HeadFields.calls (k : Nat) (a0_0 : ByteArray) (a0_1 : ByteArray) (a0_2 : ByteArray) (A0_3 : Option Addr) (c0_3 : Nat) (l0_3 : List (S35)) (A0_4 : Option Addr) (c0_4 : Nat) (l0_4 : List (S35)) (a1 : ByteArray) (a2 : ByteArray) (r : Bool) (w : World) (hr0_3 : Kd.C k35 w A0_3 l0_3.length l0_3) (hc0_3 : l0_3.length ≤ c0_3) (hr0_4 : Kd.C k35 w A0_4 l0_4.length l0_4) (hc0_4 : l0_4.length ≤ c0_4) (hG : MaxL w) (h : tolllaw18_HeadFields.f k a0_0 a0_1 a0_2 l0_3 l0_4 a1 a2 = some r) :
  Calls Tryd.prog 6 #[.agg #[.string a0_0, .string a0_1, .string a0_2, .slice A0_3 l0_3.length c0_3, .slice A0_4 l0_4.length c0_4], .string a1, .string a2] w fun e w' => e = .returned (.bool r) ∧ Below w.heap.size w w' := by
 have HGL := am_ hG
 clear hG
 have hu26 := Tryd.underlying26
 have hu35 := Tryd.underlying35
 have HR0_3 := Aside0.mk hr0_3
 have HC0_3 := Aside0.mk hc0_3
 clear hr0_3 hc0_3
 have HR0_4 := Aside0.mk hr0_4
 have HC0_4 := Aside0.mk hc0_4
 clear hr0_4 hc0_4
 have HB := am_ (Below.refl w.heap.size w)
 have H : ((tolllaw06_Asked.f k a0_0 a0_1 a0_2 l0_3 l0_4).bind fun bt394 => ((head_Lay.f k bt394.1 bt394.2.1 bt394.2.2.1 bt394.2.2.2.1 bt394.2.2.2.2).bind fun bt403 => (if bt403.2 = 0 then (tolllaw18_HeadFields.j0 k a1 a2 bt403.1 (decide ((bt403.1.size : Int) < 4)) bt394.1 bt394.2.1 bt394.2.2.1 bt394.2.2.2.1 bt394.2.2.2.2) else (tolllaw18_HeadFields.j0 k a1 a2 bt403.1 true bt394.1 bt394.2.1 bt394.2.2.1 bt394.2.2.2.1 bt394.2.2.2.2)))) = some r := h
 clear h
 replace H := Option.bind_eq_some_iff.mp H
 obtain ⟨⟨t394, t395, t396, t397, t400⟩, A40, H⟩ := H
 replace H : ((head_Lay.f k t394 t395 t396 t397 t400).bind fun bt403 => (if bt403.2 = 0 then (tolllaw18_HeadFields.j0 k a1 a2 bt403.1 (decide ((bt403.1.size : Int) < 4)) t394 t395 t396 t397 t400) else (tolllaw18_HeadFields.j0 k a1 a2 bt403.1 true t394 t395 t396 t397 t400))) = some r := H
 have A4 := Aside0.mk A40
 clear A40
 replace H := Option.bind_eq_some_iff.mp H
 obtain ⟨⟨t403, t404⟩, A50, H⟩ := H
 replace H : (if t404 = 0 then (tolllaw18_HeadFields.j0 k a1 a2 t403 (decide ((t403.size : Int) < 4)) t394 t395 t396 t397 t400) else (tolllaw18_HeadFields.j0 k a1 a2 t403 true t394 t395 t396 t397 t400)) = some r := H
 have A5 := Aside0.mk A50
 clear A50
 have HC6 := Aside0.mk H
 clear H
 go_enter Tryd.func6, Tryd.ntmps6
 go_upto_region 3 with (first | ((with_reducible refine gate_dst (N := 3) rfl ?_); (try (refine gate_guard (by rfl) ?_; dsimp only)); refine box_event ?hg (N := 3) ?hd (cs := #[.string a0_0, .string a0_1, .string a0_2, .slice A0_3 l0_3.length c0_3, .slice A0_4 l0_4.length c0_4]) (t := 26) ?hr ?_; (case hd => rfl); (case hg => rfl); (case hr => first | (go_simp; done) | (go_simp; rfl)); intro gb393 hg w7 hbox hb; have n0_ := am_ (below_step (bel_ HB.out) hb); have n1_ := am_ (hbox); have n2_ := am_ ((by rw [hg]; exact (below_size (bel_ HB.out)) : w.heap.size ≤ gb393)); have n3_ := am_ ((by rw [hg]; exact (below_size (bel_ HB.out)) : w.heap.size ≤ gb393)); clear HB; have HB := n0_; have BK393 := n1_; have GW393 := n2_; have GE393 := n3_; clear n0_ n1_ n2_ n3_ hb hbox hg; have hcz8_0 : w7.cell? ⟨gb393, 0, none⟩ = some (.string a0_0) := (blk_cell BK393.out 0).trans rfl; have hcz8_1 : w7.cell? ⟨gb393, 1, none⟩ = some (.string a0_1) := (blk_cell BK393.out 1).trans rfl; have hcz8_2 : w7.cell? ⟨gb393, 2, none⟩ = some (.string a0_2) := (blk_cell BK393.out 2).trans rfl; have hcz8_3 : w7.cell? ⟨gb393, 3, none⟩ = some (.slice A0_3 l0_3.length c0_3) := (blk_cell BK393.out 3).trans rfl; have hcz8_4 : w7.cell? ⟨gb393, 4, none⟩ = some (.slice A0_4 l0_4.length c0_4) := (blk_cell BK393.out 4).trans rfl; have hfz8_0 := blk_frozen BK393.out 0; have hfz8_1 := blk_frozen BK393.out 1; have hfz8_2 := blk_frozen BK393.out 2; have hfz8_3 := blk_frozen BK393.out 3; have hfz8_4 := blk_frozen BK393.out 4) | ((with_reducible refine gate_callee (f := 13) rfl ?_); refine goesL_ (some 15) rfl rfl Tryd.func13 kr_ rfl #[.agg #[.string a0_0, .string a0_1, .string a0_2, .slice A0_3 l0_3.length c0_3, .slice A0_4 l0_4.length c0_4]] rfl rl_ ?_; (with_reducible refine (tolllaw06_Asked.calls k a0_0 a0_1 a0_2 _ _ l0_3 _ _ l0_4 t394 t395 t396 t397 t400 _ ?side1 ?side2 ?side3 ?side4 A4.out).mono ?_); (case side1 => exact C_ (Kd.C_below HR0_3.out HB.out)); (case side2 => exact HC0_3.out); (case side3 => exact C_ (Kd.C_below HR0_4.out HB.out)); (case side4 => exact HC0_4.out); rintro e w9 ⟨v398, v401, rfl, ho0, ho1, hb⟩; refine ⟨_, rfl, ?_⟩; have n0_ := am_ (Kd.R_lower ho0 (below_size (bel_ HB.out))); have n1_ := am_ (Kd.R_lower ho1 (below_size (bel_ HB.out))); have n2_ := am_ (blk_below (g := gb393) (o := .cells #[.string a0_0, .string a0_1, .string a0_2, .slice A0_3 l0_3.length c0_3, .slice A0_4 l0_4.length c0_4] 26 (0, 0)) (blk_ BK393.out) hb); have n3_ := am_ (below_step (bel_ HB.out) hb); clear BK393 HB; have HO399 := n0_; have HO402 := n1_; have BK393 := n2_; have HB := n3_; clear n0_ n1_ n2_ n3_; (try clear hb); (try clear hb2); (try clear hk); (try clear hi); (try clear ho0); (try clear ho1); have hcz10_0 : w9.cell? ⟨gb393, 0, none⟩ = some (.string a0_0) := (blk_cell BK393.out 0).trans rfl; have hcz10_1 : w9.cell? ⟨gb393, 1, none⟩ = some (.string a0_1) := (blk_cell BK393.out 1).trans rfl; have hcz10_2 : w9.cell? ⟨gb393, 2, none⟩ = some (.string a0_2) := (blk_cell BK393.out 2).trans rfl; have hcz10_3 : w9.cell? ⟨gb393, 3, none⟩ = some (.slice A0_3 l0_3.length c0_3) := (blk_cell BK393.out 3).trans rfl; have hcz10_4 : w9.cell? ⟨gb393, 4, none⟩ = some (.slice A0_4 l0_4.length c0_4) := (blk_cell BK393.out 4).trans rfl; have hfz10_0 := blk_frozen BK393.out 0; have hfz10_1 := blk_frozen BK393.out 1; have hfz10_2 := blk_frozen BK393.out 2; have hfz10_3 := blk_frozen BK393.out 3; have hfz10_4 := blk_frozen BK393.out 4; obtain ⟨Ao11, co11, eo11⟩ := Kd.R_slice HO399.out; subst eo11; obtain ⟨Ao12, co12, eo12⟩ := Kd.R_slice HO402.out; subst eo12) | ((with_reducible refine gate_callee (f := 12) rfl ?_); refine goesL_ (some 18) rfl rfl Tryd.func12 kr_ rfl #[.agg #[.string t394, .string t395, .string t396, .slice Ao11 t397.length co11, .slice Ao12 t400.length co12]] rfl rl_ ?_; (with_reducible refine (head_Lay.calls k t394 t395 t396 _ _ t397 _ _ t400 t403 t404 _ ?side1 ?side2 ?side3 ?side4 A5.out).mono ?_); (case side1 => refine (Kd.R_reads' (e := 35) (base := w.heap.size) (ok := fun k_ => some k_ ≠ (.slice Ao12 t400.length co12 : Value).ownBlock) (n := t397.length) (c := co11) ?_).2.2; exact (by (with_reducible repeat (first | apply Kd.R_alloc | apply Kd.R_drewN | apply Kd.R_drew)); exact (Kd.R_mono (Kd.R_far (p := ⟨gb393, 4, none⟩) (Kd.R_far (p := ⟨gb393, 3, none⟩) (Kd.R_far (p := ⟨gb393, 2, none⟩) (Kd.R_far (p := ⟨gb393, 1, none⟩) (Kd.R_far (p := ⟨gb393, 0, none⟩) (Kd.R_types HO399.out BK393.out (by decide)) (fun _ hk => hk.2) (.string t394)) (fun _ hk => hk.2) (.string t395)) (fun _ hk => hk.2) (.string t396)) (fun _ hk => hk.2) (.slice Ao11 t397.length co11)) (fun _ hk => hk.2) (.slice Ao12 t400.length co12)) (fun _ h_ => h_.1)))); (case side2 => exact (Kd.R_reads' HO399.out).2.1); (case side3 => refine (Kd.R_reads' (e := 35) (base := w.heap.size) (ok := fun k_ => some k_ ≠ (.slice Ao11 t397.length co11 : Value).ownBlock) (n := t400.length) (c := co12) ?_).2.2; exact (by (with_reducible repeat (first | apply Kd.R_alloc | apply Kd.R_drewN | apply Kd.R_drew)); exact (Kd.R_mono (Kd.R_far (p := ⟨gb393, 4, none⟩) (Kd.R_far (p := ⟨gb393, 3, none⟩) (Kd.R_far (p := ⟨gb393, 2, none⟩) (Kd.R_far (p := ⟨gb393, 1, none⟩) (Kd.R_far (p := ⟨gb393, 0, none⟩) (Kd.R_types HO402.out BK393.out (by decide)) (fun _ hk => hk.2) (.string t394)) (fun _ hk => hk.2) (.string t395)) (fun _ hk => hk.2) (.string t396)) (fun _ hk => hk.2) (.slice Ao11 t397.length co11)) (fun _ hk => hk.2) (.slice Ao12 t400.length co12)) (fun _ h_ => h_.1)))); (case side4 => exact (Kd.R_reads' HO402.out).2.1); rintro e w13 ⟨rfl, hb⟩; refine ⟨_, rfl, ?_⟩; have n0_ := am_ (Kd.R_below (by (with_reducible repeat (first | apply Kd.R_alloc | apply Kd.R_drewN | apply Kd.R_drew)); exact (Kd.R_mono (Kd.R_far (p := ⟨gb393, 4, none⟩) (Kd.R_far (p := ⟨gb393, 3, none⟩) (Kd.R_far (p := ⟨gb393, 2, none⟩) (Kd.R_far (p := ⟨gb393, 1, none⟩) (Kd.R_far (p := ⟨gb393, 0, none⟩) (Kd.R_types HO399.out BK393.out (by decide)) (fun _ hk => hk.2) (.string t394)) (fun _ hk => hk.2) (.string t395)) (fun _ hk => hk.2) (.string t396)) (fun _ hk => hk.2) (.slice Ao11 t397.length co11)) (fun _ hk => hk.2) (.slice Ao12 t400.length co12)) (fun _ h_ => h_.1))) hb); have n1_ := am_ (Kd.R_below (by (with_reducible repeat (first | apply Kd.R_alloc | apply Kd.R_drewN | apply Kd.R_drew)); exact (Kd.R_mono (Kd.R_far (p := ⟨gb393, 4, none⟩) (Kd.R_far (p := ⟨gb393, 3, none⟩) (Kd.R_far (p := ⟨gb393, 2, none⟩) (Kd.R_far (p := ⟨gb393, 1, none⟩) (Kd.R_far (p := ⟨gb393, 0, none⟩) (Kd.R_types HO402.out BK393.out (by decide)) (fun _ hk => hk.2) (.string t394)) (fun _ hk => hk.2) (.string t395)) (fun _ hk => hk.2) (.string t396)) (fun _ hk => hk.2) (.slice Ao11 t397.length co11)) (fun _ hk => hk.2) (.slice Ao12 t400.length co12)) (fun _ h_ => h_.1))) hb); have n2_ := am_ (blk_below (g := gb393) (o := .cells #[.string t394, .string t395, .string t396, .slice Ao11 t397.length co11, .slice Ao12 t400.length co12] 26 (0, 0)) (by (with_reducible repeat (first | refine blk_drewN ?_ _ | refine blk_drew ?_ | refine blk_alloc ?_ _)); refine blk_put (cs := #[.string t394, .string t395, .string t396, .slice Ao11 t397.length co11, .slice A0_4 l0_4.length c0_4]) ?_ 4 _ rfl; (with_reducible repeat (first | refine blk_drewN ?_ _ | refine blk_drew ?_ | refine blk_alloc ?_ _)); refine blk_put (cs := #[.string t394, .string t395, .string t396, .slice A0_3 l0_3.length c0_3, .slice A0_4 l0_4.length c0_4]) ?_ 3 _ rfl; (with_reducible repeat (first | refine blk_drewN ?_ _ | refine blk_drew ?_ | refine blk_alloc ?_ _)); refine blk_put (cs := #[.string t394, .string t395, .string a0_2, .slice A0_3 l0_3.length c0_3, .slice A0_4 l0_4.length c0_4]) ?_ 2 _ rfl; (with_reducible repeat (first | refine blk_drewN ?_ _ | refine blk_drew ?_ | refine blk_alloc ?_ _)); refine blk_put (cs := #[.string t394, .string a0_1, .string a0_2, .slice A0_3 l0_3.length c0_3, .slice A0_4 l0_4.length c0_4]) ?_ 1 _ rfl; (with_reducible repeat (first | refine blk_drewN ?_ _ | refine blk_drew ?_ | refine blk_alloc ?_ _)); refine blk_put (cs := #[.string a0_0, .string a0_1, .string a0_2, .slice A0_3 l0_3.length c0_3, .slice A0_4 l0_4.length c0_4]) ?_ 0 _ rfl; (with_reducible repeat (first | refine blk_drewN ?_ _ | refine blk_drew ?_ | refine blk_alloc ?_ _)); exact BK393.out) hb); have n3_ := am_ (below_step (bel_ HB.out) hb); clear HO399 HO402 BK393 HB; have HO399 := n0_; have HO402 := n1_; have BK393 := n2_; have HB := n3_; clear n0_ n1_ n2_ n3_; (try clear hb); (try clear hb2); (try clear hk); (try clear hi)))
 (try simp only [Act.put, List.setIfInBounds_toArray, List.set_cons_zero, List.set_cons_succ])
 go_cut [27] (fun v27 wc => ∃ (kq : Nat) (x27_5 : Bool), v27 = .bool x27_5 ∧ Aside0 (tolllaw18_HeadFields.j0 kq a1 a2 t403 x27_5 t394 t395 t396 t397 t400 = some r) ∧ Aside0 (kq ≤ k) ∧ Aside0 (Kd.R k35 35 wc w.heap.size (fun k_ => some k_ ≠ ((.slice Ao12 t400.length co12) : Value).ownBlock) (.slice Ao11 t397.length co11) t397) ∧ Aside0 (Kd.R k35 35 wc w.heap.size (fun k_ => some k_ ≠ ((.slice Ao11 t397.length co11) : Value).ownBlock) (.slice Ao12 t400.length co12) t400) ∧ Aside0 (wc.heap[gb393]? = some (.cells #[.string t394, .string t395, .string t396, (.slice Ao11 t397.length co11), (.slice Ao12 t400.length co12)] 26 (0, 0))) ∧ Aside0 (Below w.heap.size w wc))
 case first =>
  have H := HC6.out
  clear HC6
  by_cases c14 : t404 = 0
  ·rw [if_pos c14] at H
   have c14b0 : (t404 == 0) = true := beq_iff_eq.mpr c14
   have c14b1 : (t404 != 0) = false := bne_eq_false_iff_eq.mpr c14
   clear c14
   (first | rw [c14b0] | rw [c14b1] | rw [c14b2] | (simp only [i64_w, i32_w]; rw [c14b0]) | skip)
   have H' := Aside0.mk H
   clear H
   go_wp2
   go_meet
   case rel => exact ⟨_, (decide ((t403.size : Int) < 4)), sd_, H', ⟨by first | omega | exact Nat.le_refl _⟩, ⟨by (with_reducible repeat (first | apply Kd.R_alloc | apply Kd.R_drewN | apply Kd.R_drew)); exact HO399.out⟩, ⟨by (with_reducible repeat (first | apply Kd.R_alloc | apply Kd.R_drewN | apply Kd.R_drew)); exact HO402.out⟩, ⟨by (with_reducible repeat (first | refine blk_drewN ?_ _ | refine blk_drew ?_ | refine blk_alloc ?_ _)); exact BK393.out⟩, ⟨bel_ HB.out⟩⟩
  ·rw [if_neg c14] at H
   have c14b0 : (t404 == 0) = false := beq_eq_false_iff_ne.mpr c14
   have c14b1 : (t404 != 0) = true := bne_iff_ne.mpr c14
   (first | rw [c14b0] | rw [c14b1] | rw [c14b2] | (simp only [i64_w, i32_w]; rw [c14b0]) | skip)
   have H' := Aside0.mk H
   clear H
   go_wp2
   go_meet
   case rel => exact ⟨_, (true), sd_, H', ⟨by first | omega | exact Nat.le_refl _⟩, ⟨by (with_reducible repeat (first | apply Kd.R_alloc | apply Kd.R_drewN | apply Kd.R_drew)); exact HO399.out⟩, ⟨by (with_reducible repeat (first | apply Kd.R_alloc | apply Kd.R_drewN | apply Kd.R_drew)); exact HO402.out⟩, ⟨by (with_reducible repeat (first | refine blk_drewN ?_ _ | refine blk_drew ?_ | refine blk_alloc ?_ _)); exact BK393.out⟩, ⟨bel_ HB.out⟩⟩
 case rest =>
  clear HC6
  try clear c1
  try clear p2
  try clear c6
  try clear c12
  try clear c13
  try clear c14
  try clear c14b0
  try clear c14b1
  try clear c14b2
  try clear hcz10_0
  try clear hcz10_1
  try clear hcz10_2
  try clear hcz10_3
  try clear hcz10_4
  try clear hcz8_0
  try clear hcz8_1
  try clear hcz8_2
  try clear hcz8_3
  try clear hcz8_4
  try clear hfz10_0
  try clear hfz10_1
  try clear hfz10_2
  try clear hfz10_3
  try clear hfz10_4
  try clear hfz8_0
  try clear hfz8_1
  try clear hfz8_2
  try clear hfz8_3
  try clear hfz8_4
  obtain ⟨kq, x27_5, rfl, HA, HJ5, HO_394003, HO_394004, BK393, HB⟩ := hcut
  cases kq with
  | zero => exact absurd HA.out (by simp [tolllaw18_HeadFields.j0])
  | succ kj5 =>
   have H := HA.out
   clear HA
   simp only [tolllaw18_HeadFields.j0] at H
   by_cases c15 : x27_5 = true
   ·subst c15
    have H1 : ((tolllaw18_awake.f kj5).bind fun t405 => (some t405)) = some r := by rw [if_pos rfl] at H; exact H
    clear H
    have H := H1
    clear H1
    replace H := Option.bind_eq_some_iff.mp H
    obtain ⟨t405, A160, H⟩ := H
    replace H : (some t405) = some r := H
    have A16 := Aside0.mk A160
    clear A160
    obtain rfl := Option.some.inj H
    go_wp2_with (first | ((with_reducible refine gate_callee (f := 11) rfl ?_); refine goesL_ (some 28) rfl rfl Tryd.func11 kr_ rfl #[] rfl rl_ ?_; (with_reducible refine (tolllaw18_awake.calls kj5  t405 _ (gm_ HGL.out (bel_ HB.out)) A16.out).mono ?_); rintro e w17 ⟨rfl, hb⟩; refine ⟨_, rfl, ?_⟩; have n0_ := am_ (Kd.R_below (R_ HO_394003.out) hb); have n1_ := am_ (Kd.R_below (R_ HO_394004.out) hb); have n2_ := am_ (blk_below (g := gb393) (o := .cells #[.string t394, .string t395, .string t396, .slice Ao11 t397.length co11, .slice Ao12 t400.length co12] 26 (0, 0)) (blk_ BK393.out) hb); have n3_ := am_ (below_step (bel_ HB.out) hb); clear HO_394003 HO_394004 BK393 HB; have HO_394003 := n0_; have HO_394004 := n1_; have BK393 := n2_; have HB := n3_; clear n0_ n1_ n2_ n3_; (try clear hb); (try clear hb2); (try clear hk); (try clear hi)))
    go_ret
    exact ⟨fi_, bel_ HB.out⟩
   ·replace c15 := Bool.eq_false_iff.mpr c15
    subst c15
    have H1 : ((tolllaw01_Few.f a1).bind fun t406 => ((tolllaw01_Few.f a2).bind fun t407 => (if 0 ≤ (wrap64 ((t403.size : Int) - 2)) then (if (wrap64 ((t403.size : Int) - 2)) ≤ (t403.size : Int) then (if (t403.extract 0 ((wrap64 ((t403.size : Int) - 2)) : Int).toNat).size + t406.size ≤ 9223372036854775807 then (if ((t403.extract 0 ((wrap64 ((t403.size : Int) - 2)) : Int).toNat) ++ t406).size + 1 ≤ 9223372036854775807 then (if (((t403.extract 0 ((wrap64 ((t403.size : Int) - 2)) : Int).toNat) ++ t406) ++ (⟨#[58]⟩ : ByteArray)).size + t407.size ≤ 9223372036854775807 then (if ((((t403.extract 0 ((wrap64 ((t403.size : Int) - 2)) : Int).toNat) ++ t406) ++ (⟨#[58]⟩ : ByteArray)) ++ t407).size + 4 ≤ 9223372036854775807 then (tolllaw18_HeadFields.j1 kj5 t406 t407 (((((t403.extract 0 ((wrap64 ((t403.size : Int) - 2)) : Int).toNat) ++ t406) ++ (⟨#[58]⟩ : ByteArray)) ++ t407) ++ (⟨#[13, 10, 13, 10]⟩ : ByteArray)) t394 t395 t396 t397 t400) else (none)) else (none)) else (none)) else (none)) else (none)) else (none)))) = some r := by rw [if_neg (show ¬ (false = true) by decide)] at H; exact H
    clear H
    have H := H1
    clear H1
    replace H := Option.bind_eq_some_iff.mp H
    obtain ⟨t406, A180, H⟩ := H
    replace H : ((tolllaw01_Few.f a2).bind fun t407 => (if 0 ≤ (wrap64 ((t403.size : Int) - 2)) then (if (wrap64 ((t403.size : Int) - 2)) ≤ (t403.size : Int) then (if (t403.extract 0 ((wrap64 ((t403.size : Int) - 2)) : Int).toNat).size + t406.size ≤ 9223372036854775807 then (if ((t403.extract 0 ((wrap64 ((t403.size : Int) - 2)) : Int).toNat) ++ t406).size + 1 ≤ 9223372036854775807 then (if (((t403.extract 0 ((wrap64 ((t403.size : Int) - 2)) : Int).toNat) ++ t406) ++ (⟨#[58]⟩ : ByteArray)).size + t407.size ≤ 9223372036854775807 then (if ((((t403.extract 0 ((wrap64 ((t403.size : Int) - 2)) : Int).toNat) ++ t406) ++ (⟨#[58]⟩ : ByteArray)) ++ t407).size + 4 ≤ 9223372036854775807 then (tolllaw18_HeadFields.j1 kj5 t406 t407 (((((t403.extract 0 ((wrap64 ((t403.size : Int) - 2)) : Int).toNat) ++ t406) ++ (⟨#[58]⟩ : ByteArray)) ++ t407) ++ (⟨#[13, 10, 13, 10]⟩ : ByteArray)) t394 t395 t396 t397 t400) else (none)) else (none)) else (none)) else (none)) else (none)) else (none))) = some r := H
    have A18 := Aside0.mk A180
    clear A180
    replace H := Option.bind_eq_some_iff.mp H
    obtain ⟨t407, A190, H⟩ := H
    replace H : (if 0 ≤ (wrap64 ((t403.size : Int) - 2)) then (if (wrap64 ((t403.size : Int) - 2)) ≤ (t403.size : Int) then (if (t403.extract 0 ((wrap64 ((t403.size : Int) - 2)) : Int).toNat).size + t406.size ≤ 9223372036854775807 then (if ((t403.extract 0 ((wrap64 ((t403.size : Int) - 2)) : Int).toNat) ++ t406).size + 1 ≤ 9223372036854775807 then (if (((t403.extract 0 ((wrap64 ((t403.size : Int) - 2)) : Int).toNat) ++ t406) ++ (⟨#[58]⟩ : ByteArray)).size + t407.size ≤ 9223372036854775807 then (if ((((t403.extract 0 ((wrap64 ((t403.size : Int) - 2)) : Int).toNat) ++ t406) ++ (⟨#[58]⟩ : ByteArray)) ++ t407).size + 4 ≤ 9223372036854775807 then (tolllaw18_HeadFields.j1 kj5 t406 t407 (((((t403.extract 0 ((wrap64 ((t403.size : Int) - 2)) : Int).toNat) ++ t406) ++ (⟨#[58]⟩ : ByteArray)) ++ t407) ++ (⟨#[13, 10, 13, 10]⟩ : ByteArray)) t394 t395 t396 t397 t400) else (none)) else (none)) else (none)) else (none)) else (none)) else (none)) = some r := H
    have A19 := Aside0.mk A190
    clear A190
    have HC20 := Aside0.mk H
    clear H
    go_upto_region 6 with (first | ((with_reducible refine gate_callee (f := 14) rfl ?_); refine goesL_ (some 30) rfl rfl Tryd.func14 kr_ rfl #[.string a1] rfl rl_ ?_; (with_reducible refine (tolllaw01_Few.calls a1 t406 _ A18.out).mono ?_); rintro e w' ⟨rfl, ⟨nd, rfl⟩⟩; refine ⟨_, rfl, ?_⟩) | ((with_reducible refine gate_callee (f := 14) rfl ?_); refine goesL_ (some 32) rfl rfl Tryd.func14 kr_ rfl #[.string a2] rfl rl_ ?_; (with_reducible refine (tolllaw01_Few.calls a2 t407 _ A19.out).mono ?_); rintro e w' ⟨rfl, ⟨nd, rfl⟩⟩; refine ⟨_, rfl, ?_⟩))
    (try simp only [Act.put, List.setIfInBounds_toArray, List.set_cons_zero, List.set_cons_succ])
    go_cut [9] (fun v9 wc => ∃ (kq : Nat) (x9_19 : ByteArray), v9 = .string x9_19 ∧ Aside0 (tolllaw18_HeadFields.j1 kq t406 t407 x9_19 t394 t395 t396 t397 t400 = some r) ∧ Aside0 (kq ≤ kj5) ∧ Aside0 (Kd.R k35 35 wc w.heap.size (fun k_ => some k_ ≠ ((.slice Ao12 t400.length co12) : Value).ownBlock) (.slice Ao11 t397.length co11) t397) ∧ Aside0 (Kd.R k35 35 wc w.heap.size (fun k_ => some k_ ≠ ((.slice Ao11 t397.length co11) : Value).ownBlock) (.slice Ao12 t400.length co12) t400) ∧ Aside0 (wc.heap[gb393]? = some (.cells #[.string t394, .string t395, .string t396, (.slice Ao11 t397.length co11), (.slice Ao12 t400.length co12)] 26 (0, 0))) ∧ Aside0 (Below w.heap.size w wc))
    case first =>
     have H := HC20.out
     clear HC20
     obtain ⟨ji21, hji21⟩ : ∃ j_ : Int, (wrap64 ((t403.size : Int) - 2)) = j_ := ⟨_, rfl⟩
     replace H : (if 0 ≤ (ji21) then (if (ji21) ≤ (t403.size : Int) then (if (t403.extract 0 ((ji21) : Int).toNat).size + t406.size ≤ 9223372036854775807 then (if ((t403.extract 0 ((ji21) : Int).toNat) ++ t406).size + 1 ≤ 9223372036854775807 then (if (((t403.extract 0 ((ji21) : Int).toNat) ++ t406) ++ (⟨#[58]⟩ : ByteArray)).size + t407.size ≤ 9223372036854775807 then (if ((((t403.extract 0 ((ji21) : Int).toNat) ++ t406) ++ (⟨#[58]⟩ : ByteArray)) ++ t407).size + 4 ≤ 9223372036854775807 then (tolllaw18_HeadFields.j1 kj5 t406 t407 (((((t403.extract 0 ((ji21) : Int).toNat) ++ t406) ++ (⟨#[58]⟩ : ByteArray)) ++ t407) ++ (⟨#[13, 10, 13, 10]⟩ : ByteArray)) t394 t395 t396 t397 t400) else (none)) else (none)) else (none)) else (none)) else (none)) else (none)) = some r := by first | (rw [hji21] at H; exact H) | (simp only [hji21] at H ⊢; exact H)
     have hji21w : (IntKind.i64.wrap ((t403.size : Int) - 2)) = ji21 := (i64_w _).trans hji21
     by_cases c22 : 0 ≤ (ji21)
     ·rw [if_pos c22] at H
      have c22b0 := eq_true c22
      have c22b1 : decide (0 ≤ (ji21)) = true := decide_eq_true c22
      clear c22
      by_cases c23 : (ji21) ≤ (t403.size : Int)
      ·rw [if_pos c23] at H
       have c23b0 := eq_true c23
       have c23b1 : decide ((ji21) ≤ (t403.size : Int)) = true := decide_eq_true c23
       clear c23
       by_cases c24 : (t403.extract 0 ((ji21) : Int).toNat).size + t406.size ≤ 9223372036854775807
       ·rw [if_pos c24] at H
        have c24b0 := eq_true c24
        have c24b1 : decide ((t403.extract 0 ((ji21) : Int).toNat).size + t406.size ≤ 9223372036854775807) = true := decide_eq_true c24
        try have c24b2 : (9223372036854775807 < (t403.extract 0 ((ji21) : Int).toNat).size + t406.size) = False := eq_false (Nat.not_lt.2 c24)
        (try (have c24s := c24; rw [ByteArray.size_extract, Nat.min_eq_left (by omega)] at c24s; have c24n := eq_false (Nat.not_lt.2 c24s)))
        by_cases c25 : ((t403.extract 0 ((ji21) : Int).toNat) ++ t406).size + 1 ≤ 9223372036854775807
        ·rw [if_pos c25] at H
         have c25b0 := eq_true c25
         have c25b1 : decide (((t403.extract 0 ((ji21) : Int).toNat) ++ t406).size + 1 ≤ 9223372036854775807) = true := decide_eq_true c25
         try have c25b2 : (9223372036854775807 < ((t403.extract 0 ((ji21) : Int).toNat) ++ t406).size + 1) = False := eq_false (Nat.not_lt.2 c25)
         (try have c25z : (9223372036854775807 < (t403.extract 0 ((ji21) : Int).toNat).size + t406.size + 1) = False := eq_false (Nat.not_lt.2 (by have q_ := c25; simp only [ByteArray.size_append] at q_; exact q_)))
         (try have c25y : (9223372036854775807 < ji21.toNat + t406.size + 1) = False := eq_false (Nat.not_lt.2 (by have q_ := c25; have q1_ := of_eq_true c23b0; have q0_ := of_eq_true c22b0; simp only [ByteArray.size_append, ByteArray.size_extract, Nat.sub_zero] at q_; rw [Nat.min_eq_left (by omega)] at q_; exact q_)))
         by_cases c26 : (((t403.extract 0 ((ji21) : Int).toNat) ++ t406) ++ (⟨#[58]⟩ : ByteArray)).size + t407.size ≤ 9223372036854775807
         ·rw [if_pos c26] at H
          have c26b0 := eq_true c26
          have c26b1 : decide ((((t403.extract 0 ((ji21) : Int).toNat) ++ t406) ++ (⟨#[58]⟩ : ByteArray)).size + t407.size ≤ 9223372036854775807) = true := decide_eq_true c26
          try have c26b2 : (9223372036854775807 < (((t403.extract 0 ((ji21) : Int).toNat) ++ t406) ++ (⟨#[58]⟩ : ByteArray)).size + t407.size) = False := eq_false (Nat.not_lt.2 c26)
          (try have c26z : (9223372036854775807 < (t403.extract 0 ((ji21) : Int).toNat).size + t406.size + 1 + t407.size) = False := eq_false (Nat.not_lt.2 (by have q_ := c26; simp only [ByteArray.size_append] at q_; exact q_)))
          (try have c26y : (9223372036854775807 < ji21.toNat + t406.size + 1 + t407.size) = False := eq_false (Nat.not_lt.2 (by have q_ := c26; have q1_ := of_eq_true c23b0; have q0_ := of_eq_true c22b0; simp only [ByteArray.size_append, ByteArray.size_extract, Nat.sub_zero] at q_; rw [Nat.min_eq_left (by omega)] at q_; exact q_)))
          (try (have c26s := c26; rw [ByteArray.size_extract, Nat.min_eq_left (by omega)] at c26s; have c26n := eq_false (Nat.not_lt.2 c26s)))
          by_cases c27 : ((((t403.extract 0 ((ji21) : Int).toNat) ++ t406) ++ (⟨#[58]⟩ : ByteArray)) ++ t407).size + 4 ≤ 9223372036854775807
          ·rw [if_pos c27] at H
           have c27b0 := eq_true c27
           have c27b1 : decide (((((t403.extract 0 ((ji21) : Int).toNat) ++ t406) ++ (⟨#[58]⟩ : ByteArray)) ++ t407).size + 4 ≤ 9223372036854775807) = true := decide_eq_true c27
           try have c27b2 : (9223372036854775807 < ((((t403.extract 0 ((ji21) : Int).toNat) ++ t406) ++ (⟨#[58]⟩ : ByteArray)) ++ t407).size + 4) = False := eq_false (Nat.not_lt.2 c27)
           (try have c27z : (9223372036854775807 < (t403.extract 0 ((ji21) : Int).toNat).size + t406.size + 1 + t407.size + 4) = False := eq_false (Nat.not_lt.2 (by have q_ := c27; simp only [ByteArray.size_append] at q_; exact q_)))
           (try have c27y : (9223372036854775807 < ji21.toNat + t406.size + 1 + t407.size + 4) = False := eq_false (Nat.not_lt.2 (by have q_ := c27; have q1_ := of_eq_true c23b0; have q0_ := of_eq_true c22b0; simp only [ByteArray.size_append, ByteArray.size_extract, Nat.sub_zero] at q_; rw [Nat.min_eq_left (by omega)] at q_; exact q_)))
           have H' := Aside0.mk H
           clear H
           go_wp2
           go_meet
           case rel => exact ⟨_, (((((t403.extract 0 ((ji21) : Int).toNat) ++ t406) ++ (⟨#[58]⟩ : ByteArray)) ++ t407) ++ (⟨#[13, 10, 13, 10]⟩ : ByteArray)), (by first | rfl | (simp; done) | (simp only [← hji21] <;> (first | rfl | simp)) | (simp [*]; done)), (by first | exact H' | (simp only [hji21]; exact H')), ⟨by have := HJ5.out; first | omega | exact Nat.le_refl _⟩, ⟨by (with_reducible repeat (first | apply Kd.R_alloc | apply Kd.R_drewN | apply Kd.R_drew)); exact HO_394003.out⟩, ⟨by (with_reducible repeat (first | apply Kd.R_alloc | apply Kd.R_drewN | apply Kd.R_drew)); exact HO_394004.out⟩, ⟨by (with_reducible repeat (first | refine blk_drewN ?_ _ | refine blk_drew ?_ | refine blk_alloc ?_ _)); exact BK393.out⟩, ⟨bel_ HB.out⟩⟩
          ·rw [if_neg c27] at H
           exact absurd H (by simp)
         ·rw [if_neg c26] at H
          exact absurd H (by simp)
        ·rw [if_neg c25] at H
         exact absurd H (by simp)
       ·rw [if_neg c24] at H
        exact absurd H (by simp)
      ·rw [if_neg c23] at H
       exact absurd H (by simp)
     ·rw [if_neg c22] at H
      exact absurd H (by simp)
    case rest =>
     clear HC20
     try clear c1
     try clear c2
     try clear p2
     try clear c6
     try clear p6
     try clear c11
     try clear c12
     try clear c13
     try clear c14
     try clear c14b0
     try clear c14b1
     try clear c14b2
     try clear c15
     try clear c22
     try clear c22b0
     try clear c22b1
     try clear c23
     try clear c23b0
     try clear c23b1
     try clear c24
     try clear c24b0
     try clear c24b1
     try clear c24b2
     try clear c25
     try clear c25b0
     try clear c25b1
     try clear c25b2
     try clear c26
     try clear c26b0
     try clear c26b1
     try clear c26b2
     try clear c27
     try clear c27b0
     try clear c27b1
     try clear c27b2
     try clear hcz10_0
     try clear hcz10_1
     try clear hcz10_2
     try clear hcz10_3
     try clear hcz10_4
     try clear hcz8_0
     try clear hcz8_1
     try clear hcz8_2
     try clear hcz8_3
     try clear hcz8_4
     try clear hfz10_0
     try clear hfz10_1
     try clear hfz10_2
     try clear hfz10_3
     try clear hfz10_4
     try clear hfz8_0
     try clear hfz8_1
     try clear hfz8_2
     try clear hfz8_3
     try clear hfz8_4
     try clear p2
     obtain ⟨kq, x9_19, rfl, HA, HJ19, HO_394003, HO_394004, BK393, HB⟩ := hcut
     cases kq with
     | zero => exact absurd HA.out (by simp [tolllaw18_HeadFields.j1])
     | succ kj19 =>
      have H := HA.out
      clear HA
      simp only [tolllaw18_HeadFields.j1] at H
      replace H := Option.bind_eq_some_iff.mp H
      obtain ⟨⟨t408, t409, t410, t411, t414, t417, t418⟩, A280, H⟩ := H
      replace H : ((some (([] : List (S35)) : List (S35))).bind fun y421 => (if y421.length + t400.length < 4398046511104 then ((some (y421 ++ t400 : List (S35))).bind fun y424 => (if y424.length < 4398046511104 then ((some (y424 ++ [(⟨t406, t407⟩ : S35)] : List (S35))).bind fun y427 => ((tollref05_Token.f kj19 t406).bind fun t430 => (if t430 = true then ((tollref05_Value.f kj19 t407).bind fun t431 => (if t431 = true then (if (y427.length : Int) > 30 then (tolllaw18_HeadFields.j2 kj19 x9_19 t417 t418 true t408 t409 t410 t411 t414 t394 t395 t396 t397 y427) else (if (x9_19.size : Int) > 1000 then (tolllaw18_HeadFields.j2 kj19 x9_19 t417 t418 true t408 t409 t410 t411 t414 t394 t395 t396 t397 y427) else ((tollref05_Same.f kj19 t406 (⟨#[104, 111, 115, 116]⟩ : ByteArray)).bind fun t432 => (tolllaw18_HeadFields.j2 kj19 x9_19 t417 t418 t432 t408 t409 t410 t411 t414 t394 t395 t396 t397 y427)))) else (tolllaw18_HeadFields.j2 kj19 x9_19 t417 t418 true t408 t409 t410 t411 t414 t394 t395 t396 t397 y427))) else (tolllaw18_HeadFields.j2 kj19 x9_19 t417 t418 true t408 t409 t410 t411 t414 t394 t395 t396 t397 y427)))) else (none))) else (none))) = some r := H
      have A28 := Aside0.mk A280
      clear A280
      obtain ⟨y421, hy421⟩ : ∃ y_ : List (S35), y_ = (([] : List (S35))) := ⟨_, rfl⟩
      replace H : (if y421.length + t400.length < 4398046511104 then ((some (y421 ++ t400 : List (S35))).bind fun y424 => (if y424.length < 4398046511104 then ((some (y424 ++ [(⟨t406, t407⟩ : S35)] : List (S35))).bind fun y427 => ((tollref05_Token.f kj19 t406).bind fun t430 => (if t430 = true then ((tollref05_Value.f kj19 t407).bind fun t431 => (if t431 = true then (if (y427.length : Int) > 30 then (tolllaw18_HeadFields.j2 kj19 x9_19 t417 t418 true t408 t409 t410 t411 t414 t394 t395 t396 t397 y427) else (if (x9_19.size : Int) > 1000 then (tolllaw18_HeadFields.j2 kj19 x9_19 t417 t418 true t408 t409 t410 t411 t414 t394 t395 t396 t397 y427) else ((tollref05_Same.f kj19 t406 (⟨#[104, 111, 115, 116]⟩ : ByteArray)).bind fun t432 => (tolllaw18_HeadFields.j2 kj19 x9_19 t417 t418 t432 t408 t409 t410 t411 t414 t394 t395 t396 t397 y427)))) else (tolllaw18_HeadFields.j2 kj19 x9_19 t417 t418 true t408 t409 t410 t411 t414 t394 t395 t396 t397 y427))) else (tolllaw18_HeadFields.j2 kj19 x9_19 t417 t418 true t408 t409 t410 t411 t414 t394 t395 t396 t397 y427)))) else (none))) else (none)) = some r := by first | (rw [hy421]; with_reducible exact H) | (have H2_ := (Option.bind_some _ _).symm.trans H; rw [hy421]; with_reducible exact H2_) | (have H2_ := (Option.bind_some _ _).symm.trans H; with_reducible exact H2_) | with_reducible exact H | (rw [hy421]; exact H) | exact H
      have Ny421 := Aside0.mk hy421
      clear hy421
      by_cases c29 : y421.length + t400.length < 4398046511104
      ·rw [if_pos c29] at H
       have LMc29 := Aside0.mk c29
       clear c29
       obtain ⟨y424, hy424⟩ : ∃ y_ : List (S35), y_ = (y421 ++ t400) := ⟨_, rfl⟩
       replace H : (if y424.length < 4398046511104 then ((some (y424 ++ [(⟨t406, t407⟩ : S35)] : List (S35))).bind fun y427 => ((tollref05_Token.f kj19 t406).bind fun t430 => (if t430 = true then ((tollref05_Value.f kj19 t407).bind fun t431 => (if t431 = true then (if (y427.length : Int) > 30 then (tolllaw18_HeadFields.j2 kj19 x9_19 t417 t418 true t408 t409 t410 t411 t414 t394 t395 t396 t397 y427) else (if (x9_19.size : Int) > 1000 then (tolllaw18_HeadFields.j2 kj19 x9_19 t417 t418 true t408 t409 t410 t411 t414 t394 t395 t396 t397 y427) else ((tollref05_Same.f kj19 t406 (⟨#[104, 111, 115, 116]⟩ : ByteArray)).bind fun t432 => (tolllaw18_HeadFields.j2 kj19 x9_19 t417 t418 t432 t408 t409 t410 t411 t414 t394 t395 t396 t397 y427)))) else (tolllaw18_HeadFields.j2 kj19 x9_19 t417 t418 true t408 t409 t410 t411 t414 t394 t395 t396 t397 y427))) else (tolllaw18_HeadFields.j2 kj19 x9_19 t417 t418 true t408 t409 t410 t411 t414 t394 t395 t396 t397 y427)))) else (none)) = some r := by first | (rw [hy424]; with_reducible exact H) | (have H2_ := (Option.bind_some _ _).symm.trans H; rw [hy424]; with_reducible exact H2_) | (have H2_ := (Option.bind_some _ _).symm.trans H; with_reducible exact H2_) | with_reducible exact H | (rw [hy424]; exact H) | exact H
       have Ny424 := Aside0.mk hy424
       clear hy424
       by_cases c30 : y424.length < 4398046511104
       ·rw [if_pos c30] at H
        have LMc30 := Aside0.mk c30
        clear c30
        obtain ⟨y427, hy427⟩ : ∃ y_ : List (S35), y_ = (y424 ++ [(⟨t406, t407⟩ : S35)]) := ⟨_, rfl⟩
        replace H : ((tollref05_Token.f kj19 t406).bind fun t430 => (if t430 = true then ((tollref05_Value.f kj19 t407).bind fun t431 => (if t431 = true then (if (y427.length : Int) > 30 then (tolllaw18_HeadFields.j2 kj19 x9_19 t417 t418 true t408 t409 t410 t411 t414 t394 t395 t396 t397 y427) else (if (x9_19.size : Int) > 1000 then (tolllaw18_HeadFields.j2 kj19 x9_19 t417 t418 true t408 t409 t410 t411 t414 t394 t395 t396 t397 y427) else ((tollref05_Same.f kj19 t406 (⟨#[104, 111, 115, 116]⟩ : ByteArray)).bind fun t432 => (tolllaw18_HeadFields.j2 kj19 x9_19 t417 t418 t432 t408 t409 t410 t411 t414 t394 t395 t396 t397 y427)))) else (tolllaw18_HeadFields.j2 kj19 x9_19 t417 t418 true t408 t409 t410 t411 t414 t394 t395 t396 t397 y427))) else (tolllaw18_HeadFields.j2 kj19 x9_19 t417 t418 true t408 t409 t410 t411 t414 t394 t395 t396 t397 y427))) = some r := by first | (rw [hy427]; with_reducible exact H) | (have H2_ := (Option.bind_some _ _).symm.trans H; rw [hy427]; with_reducible exact H2_) | (have H2_ := (Option.bind_some _ _).symm.trans H; with_reducible exact H2_) | with_reducible exact H | (rw [hy427]; exact H) | exact H
        have Ny427 := Aside0.mk hy427
        clear hy427
        have HC31 := Aside0.mk H
        clear H
        go_upto_region 10 with (first | ((with_reducible refine gate_callee (f := 9) rfl ?_); refine goesL_ (some 46) rfl rfl Tryd.func9 kr_ rfl #[.string x9_19] rfl rl_ ?_; (with_reducible refine (head_Parse.calls kj19 x9_19 t408 t409 t410 t411 t414 t417 t418 _ (gm_ HGL.out (bel_ HB.out)) A28.out).mono ?_); rintro e w32 ⟨v412, v415, rfl, ho0, ho1, hb⟩; refine ⟨_, rfl, ?_⟩; have n0_ := am_ (Kd.R_mono (Kd.R_told (Kd.R_told (Kd.R_old (R_ HO_394003.out) hb) (Kd.R_base ho0)) (Kd.R_base ho1)) (fun _ h_ => h_.1)); have n1_ := am_ (Kd.R_mono (Kd.R_told (Kd.R_told (Kd.R_old (R_ HO_394004.out) hb) (Kd.R_base ho0)) (Kd.R_base ho1)) (fun _ h_ => h_.1)); have n2_ := am_ (Kd.R_lower (Kd.R_new' (Kd.R_new' ho0 (Kd.R_lt (R_ HO_394003.out))) (Kd.R_lt (R_ HO_394004.out))) (below_size (bel_ HB.out))); have n3_ := am_ (Kd.R_lower (Kd.R_new' (Kd.R_new' ho1 (Kd.R_lt (R_ HO_394003.out))) (Kd.R_lt (R_ HO_394004.out))) (below_size (bel_ HB.out))); have n4_ := am_ (blk_below (g := gb393) (o := .cells #[.string t394, .string t395, .string t396, .slice Ao11 t397.length co11, .slice Ao12 t400.length co12] 26 (0, 0)) (blk_ BK393.out) hb); have n5_ := am_ (below_step (bel_ HB.out) hb); clear HO_394003 HO_394004 BK393 HB; have HO_394003 := n0_; have HO_394004 := n1_; have HO413 := n2_; have HO416 := n3_; have BK393 := n4_; have HB := n5_; clear n0_ n1_ n2_ n3_ n4_ n5_; (try clear hb); (try clear hb2); (try clear hk); (try clear hi); (try clear ho0); (try clear ho1)) | ((with_reducible refine gate_dst (N := 10) rfl ?_); (try (refine gate_guard (by rfl) ?_; dsimp only)); refine box_event ?hg (N := 10) ?hd (cs := #[.string (⟨#[]⟩ : ByteArray), .string (⟨#[]⟩ : ByteArray), .string (⟨#[]⟩ : ByteArray), .slice none 0 0, .slice none 0 0]) (t := 26) ?hr ?_; (case hd => rfl); (case hg => rfl); (case hr => first | (go_simp; done) | (go_simp; rfl)); intro gb419 hg w33 hbox hb; have n0_ := am_ (Kd.R_below (R_ HO_394003.out) hb); have n1_ := am_ (Kd.R_below (R_ HO_394004.out) hb); have n2_ := am_ (Kd.R_below (R_ HO413.out) hb); have n3_ := am_ (Kd.R_below (R_ HO416.out) hb); have n4_ := am_ (blk_below (g := gb393) (o := .cells #[.string t394, .string t395, .string t396, .slice Ao11 t397.length co11, .slice Ao12 t400.length co12] 26 (0, 0)) (blk_ BK393.out) hb); have n5_ := am_ (below_step (bel_ HB.out) hb); have n6_ := am_ (hbox); have n7_ := am_ ((by rw [hg]; exact (below_size (bel_ HB.out)) : w.heap.size ≤ gb419)); have n8_ := am_ ((by rw [hg]; exact (below_size (bel_ HB.out)) : w.heap.size ≤ gb419)); have n9_ := am_ ((by rw [hg]; exact Nat.ne_of_lt (blk_lt (g := gb393) (o := .cells #[.string t394, .string t395, .string t396, .slice Ao11 t397.length co11, .slice Ao12 t400.length co12] 26 (0, 0)) (blk_ BK393.out)) : gb393 ≠ gb419)); have n10_ := am_ ((by rw [hg]; exact Nat.ne_of_gt (blk_lt (g := gb393) (o := .cells #[.string t394, .string t395, .string t396, .slice Ao11 t397.length co11, .slice Ao12 t400.length co12] 26 (0, 0)) (blk_ BK393.out)) : gb419 ≠ gb393)); clear HO_394003 HO_394004 HO413 HO416 BK393 HB; have HO_394003 := n0_; have HO_394004 := n1_; have HO413 := n2_; have HO416 := n3_; have BK393 := n4_; have HB := n5_; have BK419 := n6_; have GW419 := n7_; have GE419 := n8_; have NB393_419 := n9_; have NB419_393 := n10_; clear n0_ n1_ n2_ n3_ n4_ n5_ n6_ n7_ n8_ n9_ n10_ hb hbox hg; have hnb34 := NB419_393.out; have hnc34 := NB393_419.out; have hcz35_0 : w33.cell? ⟨gb419, 0, none⟩ = some (.string (⟨#[]⟩ : ByteArray)) := (blk_cell BK419.out 0).trans rfl; have hcz35_1 : w33.cell? ⟨gb419, 1, none⟩ = some (.string (⟨#[]⟩ : ByteArray)) := (blk_cell BK419.out 1).trans rfl; have hcz35_2 : w33.cell? ⟨gb419, 2, none⟩ = some (.string (⟨#[]⟩ : ByteArray)) := (blk_cell BK419.out 2).trans rfl; have hcz35_3 : w33.cell? ⟨gb419, 3, none⟩ = some (.slice none 0 0) := (blk_cell BK419.out 3).trans rfl; have hcz35_4 : w33.cell? ⟨gb419, 4, none⟩ = some (.slice none 0 0) := (blk_cell BK419.out 4).trans rfl; have hfz35_0 := blk_frozen BK419.out 0; have hfz35_1 := blk_frozen BK419.out 1; have hfz35_2 := blk_frozen BK419.out 2; have hfz35_3 := blk_frozen BK419.out 3; have hfz35_4 := blk_frozen BK419.out 4; obtain ⟨Ao36, co36, eo36⟩ := Kd.R_slice HO413.out; subst eo36; obtain ⟨Ao37, co37, eo37⟩ := Kd.R_slice HO416.out; subst eo37; have hcz38_0 : w33.cell? ⟨gb393, 0, none⟩ = some (.string t394) := (blk_cell BK393.out 0).trans rfl; have hcz38_1 : w33.cell? ⟨gb393, 1, none⟩ = some (.string t395) := (blk_cell BK393.out 1).trans rfl; have hcz38_2 : w33.cell? ⟨gb393, 2, none⟩ = some (.string t396) := (blk_cell BK393.out 2).trans rfl; have hcz38_3 : w33.cell? ⟨gb393, 3, none⟩ = some (.slice Ao11 t397.length co11) := (blk_cell BK393.out 3).trans rfl; have hcz38_4 : w33.cell? ⟨gb393, 4, none⟩ = some (.slice Ao12 t400.length co12) := (blk_cell BK393.out 4).trans rfl; have hfz38_0 := blk_frozen BK393.out 0; have hfz38_1 := blk_frozen BK393.out 1; have hfz38_2 := blk_frozen BK393.out 2; have hfz38_3 := blk_frozen BK393.out 3; have hfz38_4 := blk_frozen BK393.out 4) | ((with_reducible refine gate_dst (N := 13) rfl ?_); (try (refine gate_guard (by rfl) ?_; dsimp only)); refine box_event ?hg (N := 13) ?hd (cs := #[.string (⟨#[]⟩ : ByteArray), .string (⟨#[]⟩ : ByteArray), .string (⟨#[]⟩ : ByteArray), .slice none 0 0, .slice none 0 0]) (t := 26) ?hr ?_; (case hd => rfl); (case hg => rfl); (case hr => first | (go_simp; done) | (go_simp; rfl)); intro gb420 hg w39 hbox hb; have n0_ := am_ (Kd.R_below (by (with_reducible repeat (first | apply Kd.R_alloc | apply Kd.R_drewN | apply Kd.R_drew)); exact (Kd.R_mono (Kd.R_far (p := ⟨gb419, 4, none⟩) (Kd.R_far (p := ⟨gb419, 3, none⟩) (Kd.R_far (p := ⟨gb419, 2, none⟩) (Kd.R_far (p := ⟨gb419, 1, none⟩) (Kd.R_far (p := ⟨gb419, 0, none⟩) (Kd.R_types HO_394003.out BK419.out (by decide)) (fun _ hk => hk.2) (.string t408)) (fun _ hk => hk.2) (.string t409)) (fun _ hk => hk.2) (.string t410)) (fun _ hk => hk.2) (.slice Ao36 t411.length co36)) (fun _ hk => hk.2) (.slice Ao37 t414.length co37)) (fun _ h_ => h_.1))) hb); have n1_ := am_ (Kd.R_below (by (with_reducible repeat (first | apply Kd.R_alloc | apply Kd.R_drewN | apply Kd.R_drew)); exact (Kd.R_mono (Kd.R_far (p := ⟨gb419, 4, none⟩) (Kd.R_far (p := ⟨gb419, 3, none⟩) (Kd.R_far (p := ⟨gb419, 2, none⟩) (Kd.R_far (p := ⟨gb419, 1, none⟩) (Kd.R_far (p := ⟨gb419, 0, none⟩) (Kd.R_types HO_394004.out BK419.out (by decide)) (fun _ hk => hk.2) (.string t408)) (fun _ hk => hk.2) (.string t409)) (fun _ hk => hk.2) (.string t410)) (fun _ hk => hk.2) (.slice Ao36 t411.length co36)) (fun _ hk => hk.2) (.slice Ao37 t414.length co37)) (fun _ h_ => h_.1))) hb); have n2_ := am_ (Kd.R_below (by (with_reducible repeat (first | apply Kd.R_alloc | apply Kd.R_drewN | apply Kd.R_drew)); exact (Kd.R_mono (Kd.R_far (p := ⟨gb419, 4, none⟩) (Kd.R_far (p := ⟨gb419, 3, none⟩) (Kd.R_far (p := ⟨gb419, 2, none⟩) (Kd.R_far (p := ⟨gb419, 1, none⟩) (Kd.R_far (p := ⟨gb419, 0, none⟩) (Kd.R_types HO413.out BK419.out (by decide)) (fun _ hk => hk.2) (.string t408)) (fun _ hk => hk.2) (.string t409)) (fun _ hk => hk.2) (.string t410)) (fun _ hk => hk.2) (.slice Ao36 t411.length co36)) (fun _ hk => hk.2) (.slice Ao37 t414.length co37)) (fun _ h_ => h_.1))) hb); have n3_ := am_ (Kd.R_below (by (with_reducible repeat (first | apply Kd.R_alloc | apply Kd.R_drewN | apply Kd.R_drew)); exact (Kd.R_mono (Kd.R_far (p := ⟨gb419, 4, none⟩) (Kd.R_far (p := ⟨gb419, 3, none⟩) (Kd.R_far (p := ⟨gb419, 2, none⟩) (Kd.R_far (p := ⟨gb419, 1, none⟩) (Kd.R_far (p := ⟨gb419, 0, none⟩) (Kd.R_types HO416.out BK419.out (by decide)) (fun _ hk => hk.2) (.string t408)) (fun _ hk => hk.2) (.string t409)) (fun _ hk => hk.2) (.string t410)) (fun _ hk => hk.2) (.slice Ao36 t411.length co36)) (fun _ hk => hk.2) (.slice Ao37 t414.length co37)) (fun _ h_ => h_.1))) hb); have n4_ := am_ (blk_below (g := gb393) (o := .cells #[.string t394, .string t395, .string t396, .slice Ao11 t397.length co11, .slice Ao12 t400.length co12] 26 (0, 0)) (by (with_reducible repeat (first | refine blk_drewN ?_ _ | refine blk_drew ?_ | refine blk_alloc ?_ _)); refine blk_far ?_ NB393_419.out _; (with_reducible repeat (first | refine blk_drewN ?_ _ | refine blk_drew ?_ | refine blk_alloc ?_ _)); refine blk_far ?_ NB393_419.out _; (with_reducible repeat (first | refine blk_drewN ?_ _ | refine blk_drew ?_ | refine blk_alloc ?_ _)); refine blk_far ?_ NB393_419.out _; (with_reducible repeat (first | refine blk_drewN ?_ _ | refine blk_drew ?_ | refine blk_alloc ?_ _)); refine blk_far ?_ NB393_419.out _; (with_reducible repeat (first | refine blk_drewN ?_ _ | refine blk_drew ?_ | refine blk_alloc ?_ _)); refine blk_far ?_ NB393_419.out _; (with_reducible repeat (first | refine blk_drewN ?_ _ | refine blk_drew ?_ | refine blk_alloc ?_ _)); exact BK393.out) hb); have n5_ := am_ (blk_below (g := gb419) (o := .cells #[.string t408, .string t409, .string t410, .slice Ao36 t411.length co36, .slice Ao37 t414.length co37] 26 (0, 0)) (by (with_reducible repeat (first | refine blk_drewN ?_ _ | refine blk_drew ?_ | refine blk_alloc ?_ _)); refine blk_put (cs := #[.string t408, .string t409, .string t410, .slice Ao36 t411.length co36, .slice none 0 0]) ?_ 4 _ rfl; (with_reducible repeat (first | refine blk_drewN ?_ _ | refine blk_drew ?_ | refine blk_alloc ?_ _)); refine blk_put (cs := #[.string t408, .string t409, .string t410, .slice none 0 0, .slice none 0 0]) ?_ 3 _ rfl; (with_reducible repeat (first | refine blk_drewN ?_ _ | refine blk_drew ?_ | refine blk_alloc ?_ _)); refine blk_put (cs := #[.string t408, .string t409, .string (⟨#[]⟩ : ByteArray), .slice none 0 0, .slice none 0 0]) ?_ 2 _ rfl; (with_reducible repeat (first | refine blk_drewN ?_ _ | refine blk_drew ?_ | refine blk_alloc ?_ _)); refine blk_put (cs := #[.string t408, .string (⟨#[]⟩ : ByteArray), .string (⟨#[]⟩ : ByteArray), .slice none 0 0, .slice none 0 0]) ?_ 1 _ rfl; (with_reducible repeat (first | refine blk_drewN ?_ _ | refine blk_drew ?_ | refine blk_alloc ?_ _)); refine blk_put (cs := #[.string (⟨#[]⟩ : ByteArray), .string (⟨#[]⟩ : ByteArray), .string (⟨#[]⟩ : ByteArray), .slice none 0 0, .slice none 0 0]) ?_ 0 _ rfl; (with_reducible repeat (first | refine blk_drewN ?_ _ | refine blk_drew ?_ | refine blk_alloc ?_ _)); exact BK419.out) hb); have n6_ := am_ (below_step (bel_ HB.out) hb); have n7_ := am_ (hbox); have n8_ := am_ ((by rw [hg]; exact (below_size (bel_ HB.out)) : w.heap.size ≤ gb420)); have n9_ := am_ ((by rw [hg]; exact (below_size (bel_ HB.out)) : w.heap.size ≤ gb420)); have n10_ := am_ ((by rw [hg]; exact Nat.ne_of_lt (blk_lt (g := gb393) (o := .cells #[.string t394, .string t395, .string t396, .slice Ao11 t397.length co11, .slice Ao12 t400.length co12] 26 (0, 0)) (by (with_reducible repeat (first | refine blk_drewN ?_ _ | refine blk_drew ?_ | refine blk_alloc ?_ _)); refine blk_far ?_ NB393_419.out _; (with_reducible repeat (first | refine blk_drewN ?_ _ | refine blk_drew ?_ | refine blk_alloc ?_ _)); refine blk_far ?_ NB393_419.out _; (with_reducible repeat (first | refine blk_drewN ?_ _ | refine blk_drew ?_ | refine blk_alloc ?_ _)); refine blk_far ?_ NB393_419.out _; (with_reducible repeat (first | refine blk_drewN ?_ _ | refine blk_drew ?_ | refine blk_alloc ?_ _)); refine blk_far ?_ NB393_419.out _; (with_reducible repeat (first | refine blk_drewN ?_ _ | refine blk_drew ?_ | refine blk_alloc ?_ _)); refine blk_far ?_ NB393_419.out _; (with_reducible repeat (first | refine blk_drewN ?_ _ | refine blk_drew ?_ | refine blk_alloc ?_ _)); exact BK393.out)) : gb393 ≠ gb420)); have n11_ := am_ ((by rw [hg]; exact Nat.ne_of_gt (blk_lt (g := gb393) (o := .cells #[.string t394, .string t395, .string t396, .slice Ao11 t397.length co11, .slice Ao12 t400.length co12] 26 (0, 0)) (by (with_reducible repeat (first | refine blk_drewN ?_ _ | refine blk_drew ?_ | refine blk_alloc ?_ _)); refine blk_far ?_ NB393_419.out _; (with_reducible repeat (first | refine blk_drewN ?_ _ | refine blk_drew ?_ | refine blk_alloc ?_ _)); refine blk_far ?_ NB393_419.out _; (with_reducible repeat (first | refine blk_drewN ?_ _ | refine blk_drew ?_ | refine blk_alloc ?_ _)); refine blk_far ?_ NB393_419.out _; (with_reducible repeat (first | refine blk_drewN ?_ _ | refine blk_drew ?_ | refine blk_alloc ?_ _)); refine blk_far ?_ NB393_419.out _; (with_reducible repeat (first | refine blk_drewN ?_ _ | refine blk_drew ?_ | refine blk_alloc ?_ _)); refine blk_far ?_ NB393_419.out _; (with_reducible repeat (first | refine blk_drewN ?_ _ | refine blk_drew ?_ | refine blk_alloc ?_ _)); exact BK393.out)) : gb420 ≠ gb393)); have n12_ := am_ ((by rw [hg]; exact Nat.ne_of_lt (blk_lt (g := gb419) (o := .cells #[.string t408, .string t409, .string t410, .slice Ao36 t411.length co36, .slice Ao37 t414.length co37] 26 (0, 0)) (by (with_reducible repeat (first | refine blk_drewN ?_ _ | refine blk_drew ?_ | refine blk_alloc ?_ _)); refine blk_put (cs := #[.string t408, .string t409, .string t410, .slice Ao36 t411.length co36, .slice none 0 0]) ?_ 4 _ rfl; (with_reducible repeat (first | refine blk_drewN ?_ _ | refine blk_drew ?_ | refine blk_alloc ?_ _)); refine blk_put (cs := #[.string t408, .string t409, .string t410, .slice none 0 0, .slice none 0 0]) ?_ 3 _ rfl; (with_reducible repeat (first | refine blk_drewN ?_ _ | refine blk_drew ?_ | refine blk_alloc ?_ _)); refine blk_put (cs := #[.string t408, .string t409, .string (⟨#[]⟩ : ByteArray), .slice none 0 0, .slice none 0 0]) ?_ 2 _ rfl; (with_reducible repeat (first | refine blk_drewN ?_ _ | refine blk_drew ?_ | refine blk_alloc ?_ _)); refine blk_put (cs := #[.string t408, .string (⟨#[]⟩ : ByteArray), .string (⟨#[]⟩ : ByteArray), .slice none 0 0, .slice none 0 0]) ?_ 1 _ rfl; (with_reducible repeat (first | refine blk_drewN ?_ _ | refine blk_drew ?_ | refine blk_alloc ?_ _)); refine blk_put (cs := #[.string (⟨#[]⟩ : ByteArray), .string (⟨#[]⟩ : ByteArray), .string (⟨#[]⟩ : ByteArray), .slice none 0 0, .slice none 0 0]) ?_ 0 _ rfl; (with_reducible repeat (first | refine blk_drewN ?_ _ | refine blk_drew ?_ | refine blk_alloc ?_ _)); exact BK419.out)) : gb419 ≠ gb420)); have n13_ := am_ ((by rw [hg]; exact Nat.ne_of_gt (blk_lt (g := gb419) (o := .cells #[.string t408, .string t409, .string t410, .slice Ao36 t411.length co36, .slice Ao37 t414.length co37] 26 (0, 0)) (by (with_reducible repeat (first | refine blk_drewN ?_ _ | refine blk_drew ?_ | refine blk_alloc ?_ _)); refine blk_put (cs := #[.string t408, .string t409, .string t410, .slice Ao36 t411.length co36, .slice none 0 0]) ?_ 4 _ rfl; (with_reducible repeat (first | refine blk_drewN ?_ _ | refine blk_drew ?_ | refine blk_alloc ?_ _)); refine blk_put (cs := #[.string t408, .string t409, .string t410, .slice none 0 0, .slice none 0 0]) ?_ 3 _ rfl; (with_reducible repeat (first | refine blk_drewN ?_ _ | refine blk_drew ?_ | refine blk_alloc ?_ _)); refine blk_put (cs := #[.string t408, .string t409, .string (⟨#[]⟩ : ByteArray), .slice none 0 0, .slice none 0 0]) ?_ 2 _ rfl; (with_reducible repeat (first | refine blk_drewN ?_ _ | refine blk_drew ?_ | refine blk_alloc ?_ _)); refine blk_put (cs := #[.string t408, .string (⟨#[]⟩ : ByteArray), .string (⟨#[]⟩ : ByteArray), .slice none 0 0, .slice none 0 0]) ?_ 1 _ rfl; (with_reducible repeat (first | refine blk_drewN ?_ _ | refine blk_drew ?_ | refine blk_alloc ?_ _)); refine blk_put (cs := #[.string (⟨#[]⟩ : ByteArray), .string (⟨#[]⟩ : ByteArray), .string (⟨#[]⟩ : ByteArray), .slice none 0 0, .slice none 0 0]) ?_ 0 _ rfl; (with_reducible repeat (first | refine blk_drewN ?_ _ | refine blk_drew ?_ | refine blk_alloc ?_ _)); exact BK419.out)) : gb420 ≠ gb419)); clear HO_394003 HO_394004 HO413 HO416 BK393 BK419 HB; have HO_394003 := n0_; have HO_394004 := n1_; have HO413 := n2_; have HO416 := n3_; have BK393 := n4_; have BK419 := n5_; have HB := n6_; have BK420 := n7_; have GW420 := n8_; have GE420 := n9_; have NB393_420 := n10_; have NB420_393 := n11_; have NB419_420 := n12_; have NB420_419 := n13_; clear n0_ n1_ n2_ n3_ n4_ n5_ n6_ n7_ n8_ n9_ n10_ n11_ n12_ n13_ hb hbox hg; have hnb40 := NB420_393.out; have hnc40 := NB393_420.out; have hnb41 := NB420_419.out; have hnc41 := NB419_420.out; have hcz42_0 : w39.cell? ⟨gb420, 0, none⟩ = some (.string (⟨#[]⟩ : ByteArray)) := (blk_cell BK420.out 0).trans rfl; have hcz42_1 : w39.cell? ⟨gb420, 1, none⟩ = some (.string (⟨#[]⟩ : ByteArray)) := (blk_cell BK420.out 1).trans rfl; have hcz42_2 : w39.cell? ⟨gb420, 2, none⟩ = some (.string (⟨#[]⟩ : ByteArray)) := (blk_cell BK420.out 2).trans rfl; have hcz42_3 : w39.cell? ⟨gb420, 3, none⟩ = some (.slice none 0 0) := (blk_cell BK420.out 3).trans rfl; have hcz42_4 : w39.cell? ⟨gb420, 4, none⟩ = some (.slice none 0 0) := (blk_cell BK420.out 4).trans rfl; have hfz42_0 := blk_frozen BK420.out 0; have hfz42_1 := blk_frozen BK420.out 1; have hfz42_2 := blk_frozen BK420.out 2; have hfz42_3 := blk_frozen BK420.out 3; have hfz42_4 := blk_frozen BK420.out 4) | ((with_reducible refine gate_dst (N := 51) rfl ?_); (try (refine gate_guard (by rfl) ?_; dsimp only)); refine Kd.R_lit k35 _ 35 ?hg (N := 51) ?hd (xs := ([] : List (S35))) (inner := []) (ok := fun _ => True) (okp := fun _ => True) ?hr ?hp (fun _ hk => hk) trivial (Below.refl _ _) (Nat.le_refl _) (by simp) ?_; (case hd => rfl); (case hg => rfl); (case hr => first | (go_simp; done) | (go_simp; rfl)); (case hp => exact (Reps.none _ _)); intro v422 w43 ho44 hb hg_ hnew_; clear hg_ hnew_; (first | rw [← Ny421.out] at ho44 | (simp only [Int.reduceToNat] at ho44; rw [← Ny421.out] at ho44)); have n0_ := am_ (Kd.R_elder' (by (with_reducible repeat (first | apply Kd.R_alloc | apply Kd.R_drewN | apply Kd.R_drew)); exact (Kd.R_mono (Kd.R_far (p := ⟨gb420, 4, none⟩) (Kd.R_far (p := ⟨gb420, 3, none⟩) (Kd.R_far (p := ⟨gb420, 2, none⟩) (Kd.R_far (p := ⟨gb420, 1, none⟩) (Kd.R_far (p := ⟨gb420, 0, none⟩) (Kd.R_types HO_394003.out BK420.out (by decide)) (fun _ hk => hk.2) (.string t394)) (fun _ hk => hk.2) (.string t395)) (fun _ hk => hk.2) (.string t396)) (fun _ hk => hk.2) (.slice Ao11 t397.length co11)) (fun _ hk => hk.2) (.slice Ao12 t400.length co12)) (fun _ h_ => h_.1))) (Kd.R_base ho44) hb); have n1_ := am_ (Kd.R_elder' (by (with_reducible repeat (first | apply Kd.R_alloc | apply Kd.R_drewN | apply Kd.R_drew)); exact (Kd.R_mono (Kd.R_far (p := ⟨gb420, 4, none⟩) (Kd.R_far (p := ⟨gb420, 3, none⟩) (Kd.R_far (p := ⟨gb420, 2, none⟩) (Kd.R_far (p := ⟨gb420, 1, none⟩) (Kd.R_far (p := ⟨gb420, 0, none⟩) (Kd.R_types HO_394004.out BK420.out (by decide)) (fun _ hk => hk.2) (.string t394)) (fun _ hk => hk.2) (.string t395)) (fun _ hk => hk.2) (.string t396)) (fun _ hk => hk.2) (.slice Ao11 t397.length co11)) (fun _ hk => hk.2) (.slice Ao12 t400.length co12)) (fun _ h_ => h_.1))) (Kd.R_base ho44) hb); have n2_ := am_ (Kd.R_elder' (by (with_reducible repeat (first | apply Kd.R_alloc | apply Kd.R_drewN | apply Kd.R_drew)); exact (Kd.R_mono (Kd.R_far (p := ⟨gb420, 4, none⟩) (Kd.R_far (p := ⟨gb420, 3, none⟩) (Kd.R_far (p := ⟨gb420, 2, none⟩) (Kd.R_far (p := ⟨gb420, 1, none⟩) (Kd.R_far (p := ⟨gb420, 0, none⟩) (Kd.R_types HO413.out BK420.out (by decide)) (fun _ hk => hk.2) (.string t394)) (fun _ hk => hk.2) (.string t395)) (fun _ hk => hk.2) (.string t396)) (fun _ hk => hk.2) (.slice Ao11 t397.length co11)) (fun _ hk => hk.2) (.slice Ao12 t400.length co12)) (fun _ h_ => h_.1))) (Kd.R_base ho44) hb); have n3_ := am_ (Kd.R_elder' (by (with_reducible repeat (first | apply Kd.R_alloc | apply Kd.R_drewN | apply Kd.R_drew)); exact (Kd.R_mono (Kd.R_far (p := ⟨gb420, 4, none⟩) (Kd.R_far (p := ⟨gb420, 3, none⟩) (Kd.R_far (p := ⟨gb420, 2, none⟩) (Kd.R_far (p := ⟨gb420, 1, none⟩) (Kd.R_far (p := ⟨gb420, 0, none⟩) (Kd.R_types HO416.out BK420.out (by decide)) (fun _ hk => hk.2) (.string t394)) (fun _ hk => hk.2) (.string t395)) (fun _ hk => hk.2) (.string t396)) (fun _ hk => hk.2) (.slice Ao11 t397.length co11)) (fun _ hk => hk.2) (.slice Ao12 t400.length co12)) (fun _ h_ => h_.1))) (Kd.R_base ho44) hb); have n4_ := am_ (Kd.R_lower (Kd.R_new' (Kd.R_new' (Kd.R_new' (Kd.R_new' ho44 (Kd.R_lt (by (with_reducible repeat (first | apply Kd.R_alloc | apply Kd.R_drewN | apply Kd.R_drew)); exact (Kd.R_mono (Kd.R_far (p := ⟨gb420, 4, none⟩) (Kd.R_far (p := ⟨gb420, 3, none⟩) (Kd.R_far (p := ⟨gb420, 2, none⟩) (Kd.R_far (p := ⟨gb420, 1, none⟩) (Kd.R_far (p := ⟨gb420, 0, none⟩) (Kd.R_types HO_394003.out BK420.out (by decide)) (fun _ hk => hk.2) (.string t394)) (fun _ hk => hk.2) (.string t395)) (fun _ hk => hk.2) (.string t396)) (fun _ hk => hk.2) (.slice Ao11 t397.length co11)) (fun _ hk => hk.2) (.slice Ao12 t400.length co12)) (fun _ h_ => h_.1))))) (Kd.R_lt (by (with_reducible repeat (first | apply Kd.R_alloc | apply Kd.R_drewN | apply Kd.R_drew)); exact (Kd.R_mono (Kd.R_far (p := ⟨gb420, 4, none⟩) (Kd.R_far (p := ⟨gb420, 3, none⟩) (Kd.R_far (p := ⟨gb420, 2, none⟩) (Kd.R_far (p := ⟨gb420, 1, none⟩) (Kd.R_far (p := ⟨gb420, 0, none⟩) (Kd.R_types HO_394004.out BK420.out (by decide)) (fun _ hk => hk.2) (.string t394)) (fun _ hk => hk.2) (.string t395)) (fun _ hk => hk.2) (.string t396)) (fun _ hk => hk.2) (.slice Ao11 t397.length co11)) (fun _ hk => hk.2) (.slice Ao12 t400.length co12)) (fun _ h_ => h_.1))))) (Kd.R_lt (by (with_reducible repeat (first | apply Kd.R_alloc | apply Kd.R_drewN | apply Kd.R_drew)); exact (Kd.R_mono (Kd.R_far (p := ⟨gb420, 4, none⟩) (Kd.R_far (p := ⟨gb420, 3, none⟩) (Kd.R_far (p := ⟨gb420, 2, none⟩) (Kd.R_far (p := ⟨gb420, 1, none⟩) (Kd.R_far (p := ⟨gb420, 0, none⟩) (Kd.R_types HO413.out BK420.out (by decide)) (fun _ hk => hk.2) (.string t394)) (fun _ hk => hk.2) (.string t395)) (fun _ hk => hk.2) (.string t396)) (fun _ hk => hk.2) (.slice Ao11 t397.length co11)) (fun _ hk => hk.2) (.slice Ao12 t400.length co12)) (fun _ h_ => h_.1))))) (Kd.R_lt (by (with_reducible repeat (first | apply Kd.R_alloc | apply Kd.R_drewN | apply Kd.R_drew)); exact (Kd.R_mono (Kd.R_far (p := ⟨gb420, 4, none⟩) (Kd.R_far (p := ⟨gb420, 3, none⟩) (Kd.R_far (p := ⟨gb420, 2, none⟩) (Kd.R_far (p := ⟨gb420, 1, none⟩) (Kd.R_far (p := ⟨gb420, 0, none⟩) (Kd.R_types HO416.out BK420.out (by decide)) (fun _ hk => hk.2) (.string t394)) (fun _ hk => hk.2) (.string t395)) (fun _ hk => hk.2) (.string t396)) (fun _ hk => hk.2) (.slice Ao11 t397.length co11)) (fun _ hk => hk.2) (.slice Ao12 t400.length co12)) (fun _ h_ => h_.1))))) (below_size (bel_ HB.out))); have n5_ := am_ (blk_below (g := gb393) (o := .cells #[.string t394, .string t395, .string t396, .slice Ao11 t397.length co11, .slice Ao12 t400.length co12] 26 (0, 0)) (by (with_reducible repeat (first | refine blk_drewN ?_ _ | refine blk_drew ?_ | refine blk_alloc ?_ _)); refine blk_far ?_ NB393_420.out _; (with_reducible repeat (first | refine blk_drewN ?_ _ | refine blk_drew ?_ | refine blk_alloc ?_ _)); refine blk_far ?_ NB393_420.out _; (with_reducible repeat (first | refine blk_drewN ?_ _ | refine blk_drew ?_ | refine blk_alloc ?_ _)); refine blk_far ?_ NB393_420.out _; (with_reducible repeat (first | refine blk_drewN ?_ _ | refine blk_drew ?_ | refine blk_alloc ?_ _)); refine blk_far ?_ NB393_420.out _; (with_reducible repeat (first | refine blk_drewN ?_ _ | refine blk_drew ?_ | refine blk_alloc ?_ _)); refine blk_far ?_ NB393_420.out _; (with_reducible repeat (first | refine blk_drewN ?_ _ | refine blk_drew ?_ | refine blk_alloc ?_ _)); exact BK393.out) hb); have n6_ := am_ (blk_below (g := gb419) (o := .cells #[.string t408, .string t409, .string t410, .slice Ao36 t411.length co36, .slice Ao37 t414.length co37] 26 (0, 0)) (by (with_reducible repeat (first | refine blk_drewN ?_ _ | refine blk_drew ?_ | refine blk_alloc ?_ _)); refine blk_far ?_ NB419_420.out _; (with_reducible repeat (first | refine blk_drewN ?_ _ | refine blk_drew ?_ | refine blk_alloc ?_ _)); refine blk_far ?_ NB419_420.out _; (with_reducible repeat (first | refine blk_drewN ?_ _ | refine blk_drew ?_ | refine blk_alloc ?_ _)); refine blk_far ?_ NB419_420.out _; (with_reducible repeat (first | refine blk_drewN ?_ _ | refine blk_drew ?_ | refine blk_alloc ?_ _)); refine blk_far ?_ NB419_420.out _; (with_reducible repeat (first | refine blk_drewN ?_ _ | refine blk_drew ?_ | refine blk_alloc ?_ _)); refine blk_far ?_ NB419_420.out _; (with_reducible repeat (first | refine blk_drewN ?_ _ | refine blk_drew ?_ | refine blk_alloc ?_ _)); exact BK419.out) hb); have n7_ := am_ (blk_below (g := gb420) (o := .cells #[.string t394, .string t395, .string t396, .slice Ao11 t397.length co11, .slice Ao12 t400.length co12] 26 (0, 0)) (by (with_reducible repeat (first | refine blk_drewN ?_ _ | refine blk_drew ?_ | refine blk_alloc ?_ _)); refine blk_put (cs := #[.string t394, .string t395, .string t396, .slice Ao11 t397.length co11, .slice none 0 0]) ?_ 4 _ rfl; (with_reducible repeat (first | refine blk_drewN ?_ _ | refine blk_drew ?_ | refine blk_alloc ?_ _)); refine blk_put (cs := #[.string t394, .string t395, .string t396, .slice none 0 0, .slice none 0 0]) ?_ 3 _ rfl; (with_reducible repeat (first | refine blk_drewN ?_ _ | refine blk_drew ?_ | refine blk_alloc ?_ _)); refine blk_put (cs := #[.string t394, .string t395, .string (⟨#[]⟩ : ByteArray), .slice none 0 0, .slice none 0 0]) ?_ 2 _ rfl; (with_reducible repeat (first | refine blk_drewN ?_ _ | refine blk_drew ?_ | refine blk_alloc ?_ _)); refine blk_put (cs := #[.string t394, .string (⟨#[]⟩ : ByteArray), .string (⟨#[]⟩ : ByteArray), .slice none 0 0, .slice none 0 0]) ?_ 1 _ rfl; (with_reducible repeat (first | refine blk_drewN ?_ _ | refine blk_drew ?_ | refine blk_alloc ?_ _)); refine blk_put (cs := #[.string (⟨#[]⟩ : ByteArray), .string (⟨#[]⟩ : ByteArray), .string (⟨#[]⟩ : ByteArray), .slice none 0 0, .slice none 0 0]) ?_ 0 _ rfl; (with_reducible repeat (first | refine blk_drewN ?_ _ | refine blk_drew ?_ | refine blk_alloc ?_ _)); exact BK420.out) hb); have n8_ := am_ (below_step (bel_ HB.out) hb); clear HO_394003 HO_394004 HO413 HO416 BK393 BK419 BK420 HB; have HO_394003 := n0_; have HO_394004 := n1_; have HO413 := n2_; have HO416 := n3_; have HO423 := n4_; have BK393 := n5_; have BK419 := n6_; have BK420 := n7_; have HB := n8_; clear n0_ n1_ n2_ n3_ n4_ n5_ n6_ n7_ n8_ hb ho44; have hcz45_0 : w43.cell? ⟨gb393, 0, none⟩ = some (.string t394) := (blk_cell BK393.out 0).trans rfl; have hcz45_1 : w43.cell? ⟨gb393, 1, none⟩ = some (.string t395) := (blk_cell BK393.out 1).trans rfl; have hcz45_2 : w43.cell? ⟨gb393, 2, none⟩ = some (.string t396) := (blk_cell BK393.out 2).trans rfl; have hcz45_3 : w43.cell? ⟨gb393, 3, none⟩ = some (.slice Ao11 t397.length co11) := (blk_cell BK393.out 3).trans rfl; have hcz45_4 : w43.cell? ⟨gb393, 4, none⟩ = some (.slice Ao12 t400.length co12) := (blk_cell BK393.out 4).trans rfl; have hfz45_0 := blk_frozen BK393.out 0; have hfz45_1 := blk_frozen BK393.out 1; have hfz45_2 := blk_frozen BK393.out 2; have hfz45_3 := blk_frozen BK393.out 3; have hfz45_4 := blk_frozen BK393.out 4) | ((with_reducible refine gate_builtin (b := .append) (xs := #[.tmp 51, .tmp 53]) rfl ?_); (try (refine gate_guard (by rfl) ?_; dsimp only)); at_builtin; refine Kd.R_append_rows k35 (w0 := w) w.heap.size rfl (.tmp 51) (.tmp 53) 24 35 (.agg #[(.string ⟨#[]⟩), (.string ⟨#[]⟩)]) 32 rfl Tryd.underlying24 info35 rfl (by decide) (by omega) v422 y421 t400 _ _ _ (fun k_ => some k_ ≠ (.slice Ao11 t397.length co11 : Value).ownBlock ∧ some k_ ≠ (.slice Ao12 t400.length co12 : Value).ownBlock ∧ some k_ ≠ (.slice Ao36 t411.length co36 : Value).ownBlock ∧ some k_ ≠ (.slice Ao37 t414.length co37 : Value).ownBlock) (fun _ => False) rfl rfl ?aO ?aR (fun _ _ h => h) (fun _ h => h.elim) ?aF ?aB ?aS ?aL ?_; (case aR => exact C_ (Kd.R_reads' HO_394004.out).2.2); (case aB => exact (bel_ HB.out)); (case aF => exact (fun k_ hk => ⟨Kd.fresh' (Kd.R_lt (R_ HO_394003.out)) k_ hk, Kd.fresh' (Kd.R_lt (R_ HO_394004.out)) k_ hk, Kd.fresh' (Kd.R_lt (R_ HO413.out)) k_ hk, Kd.fresh' (Kd.R_lt (R_ HO416.out)) k_ hk⟩)); (case aO => exact (by (with_reducible repeat (first | apply Kd.R_alloc | apply Kd.R_drewN | apply Kd.R_drew)); exact Kd.R_mono HO423.out (fun _ hk => ⟨hk.1.1.1.2, ⟨hk.1.1.2, ⟨hk.1.2, hk.2⟩⟩⟩))); (case aS => exact (below_size (bel_ HB.out))); (case aL => have := LMc29.out; omega); intro v425 w46 ho hb hg hat; rw [← Ny424.out] at ho; have n0_ := am_ (Kd.R_after (ok := (fun k_ => some k_ ≠ (.slice Ao12 t400.length co12 : Value).ownBlock ∧ some k_ ≠ (.slice Ao36 t411.length co36 : Value).ownBlock ∧ some k_ ≠ (.slice Ao37 t414.length co37 : Value).ownBlock)) (by (with_reducible repeat (first | apply Kd.R_alloc | apply Kd.R_drewN | apply Kd.R_drew)); exact Kd.R_mono HO_394003.out (fun _ hk => ⟨⟨hk.1.1.1, ⟨hk.1.1.2, hk.1.2⟩⟩, hk.2⟩)) hg hat); have n1_ := am_ (Kd.R_after (ok := (fun k_ => some k_ ≠ (.slice Ao11 t397.length co11 : Value).ownBlock ∧ some k_ ≠ (.slice Ao36 t411.length co36 : Value).ownBlock ∧ some k_ ≠ (.slice Ao37 t414.length co37 : Value).ownBlock)) (by (with_reducible repeat (first | apply Kd.R_alloc | apply Kd.R_drewN | apply Kd.R_drew)); exact Kd.R_mono HO_394004.out (fun _ hk => ⟨⟨hk.1.1.1, ⟨hk.1.1.2, hk.1.2⟩⟩, hk.2⟩)) hg hat); have n2_ := am_ (blk_grown (g := gb393) (o := .cells #[.string t394, .string t395, .string t396, .slice Ao11 t397.length co11, .slice Ao12 t400.length co12] 26 (0, 0)) (blk_ BK393.out) hg (Kd.R_ne HO423.out BK393.out (by decide))); have n3_ := am_ (Kd.R_after (ok := (fun k_ => some k_ ≠ (.slice Ao11 t397.length co11 : Value).ownBlock ∧ some k_ ≠ (.slice Ao12 t400.length co12 : Value).ownBlock ∧ some k_ ≠ (.slice Ao37 t414.length co37 : Value).ownBlock)) (by (with_reducible repeat (first | apply Kd.R_alloc | apply Kd.R_drewN | apply Kd.R_drew)); exact Kd.R_mono HO413.out (fun _ hk => ⟨⟨hk.1.1.2, ⟨hk.1.2, hk.1.1.1⟩⟩, hk.2⟩)) hg hat); have n4_ := am_ (Kd.R_after (ok := (fun k_ => some k_ ≠ (.slice Ao11 t397.length co11 : Value).ownBlock ∧ some k_ ≠ (.slice Ao12 t400.length co12 : Value).ownBlock ∧ some k_ ≠ (.slice Ao36 t411.length co36 : Value).ownBlock)) (by (with_reducible repeat (first | apply Kd.R_alloc | apply Kd.R_drewN | apply Kd.R_drew)); exact Kd.R_mono HO416.out (fun _ hk => ⟨⟨hk.1.1.2, ⟨hk.1.2, hk.1.1.1⟩⟩, hk.2⟩)) hg hat); have n5_ := am_ (blk_grown (g := gb419) (o := .cells #[.string t408, .string t409, .string t410, .slice Ao36 t411.length co36, .slice Ao37 t414.length co37] 26 (0, 0)) (blk_ BK419.out) hg (Kd.R_ne HO423.out BK419.out (by decide))); have n6_ := am_ (blk_grown (g := gb420) (o := .cells #[.string t394, .string t395, .string t396, .slice Ao11 t397.length co11, .slice Ao12 t400.length co12] 26 (0, 0)) (blk_ BK420.out) hg (Kd.R_ne HO423.out BK420.out (by decide))); have n7_ := am_ (hb); have n8_ := am_ (ho); clear HO_394003 HO_394004 BK393 HO413 HO416 BK419 BK420 HB HO423; have HO_394003 := n0_; have HO_394004 := n1_; have BK393 := n2_; have HO413 := n3_; have HO416 := n4_; have BK419 := n5_; have BK420 := n6_; have HB := n7_; have HO426 := n8_; clear n0_ n1_ n2_ n3_ n4_ n5_ n6_ n7_ n8_ ho hb hg hat) | ((with_reducible refine gate_builtin (b := .append) (xs := #[.tmp 54, .tmp 58]) rfl ?_); (try (refine gate_guard (by rfl) ?_; dsimp only)); at_builtin; refine Kd.R_append k35 (w0 := w) w.heap.size rfl (.tmp 54) (.tmp 58) 24 35 (.agg #[(.string ⟨#[]⟩), (.string ⟨#[]⟩)]) 32 rfl Tryd.underlying24 info35 rfl (by decide) (by omega) v425 y424 (⟨t406, t407⟩ : S35) [.string t406, .string t407] (fun k_ => some k_ ≠ (.slice Ao11 t397.length co11 : Value).ownBlock ∧ some k_ ≠ (.slice Ao12 t400.length co12 : Value).ownBlock ∧ some k_ ≠ (.slice Ao36 t411.length co36 : Value).ownBlock ∧ some k_ ≠ (.slice Ao37 t414.length co37 : Value).ownBlock) (fun _ => False) rfl rfl ?aP (fun _ hk => hk.elim) ?aF ?aO ?aB ?aS ?aL ?_; (case aP => exact k35_mkM _ _ _ (⟨t406, t407⟩ : S35)); (case aB => exact (bel_ HB.out)); (case aF => exact (fun k_ hk => ⟨Kd.fresh' (Kd.R_lt (R_ HO_394003.out)) k_ hk, Kd.fresh' (Kd.R_lt (R_ HO_394004.out)) k_ hk, Kd.fresh' (Kd.R_lt (R_ HO413.out)) k_ hk, Kd.fresh' (Kd.R_lt (R_ HO416.out)) k_ hk⟩)); (case aO => exact (R_ HO426.out)); (case aS => exact (below_size (bel_ HB.out))); (case aL => have := LMc30.out; omega); intro v428 w47 ho hb hg hat; rw [← Ny427.out] at ho; have n0_ := am_ (Kd.R_after (ok := (fun k_ => some k_ ≠ (.slice Ao12 t400.length co12 : Value).ownBlock ∧ some k_ ≠ (.slice Ao36 t411.length co36 : Value).ownBlock ∧ some k_ ≠ (.slice Ao37 t414.length co37 : Value).ownBlock)) (R_ HO_394003.out) hg hat); have n1_ := am_ (Kd.R_after (ok := (fun k_ => some k_ ≠ (.slice Ao11 t397.length co11 : Value).ownBlock ∧ some k_ ≠ (.slice Ao36 t411.length co36 : Value).ownBlock ∧ some k_ ≠ (.slice Ao37 t414.length co37 : Value).ownBlock)) (R_ HO_394004.out) hg hat); have n2_ := am_ (blk_grown (g := gb393) (o := .cells #[.string t394, .string t395, .string t396, .slice Ao11 t397.length co11, .slice Ao12 t400.length co12] 26 (0, 0)) (blk_ BK393.out) hg (Kd.R_ne HO426.out BK393.out (by decide))); have n3_ := am_ (Kd.R_after (ok := (fun k_ => some k_ ≠ (.slice Ao11 t397.length co11 : Value).ownBlock ∧ some k_ ≠ (.slice Ao12 t400.length co12 : Value).ownBlock ∧ some k_ ≠ (.slice Ao37 t414.length co37 : Value).ownBlock)) (R_ HO413.out) hg hat); have n4_ := am_ (Kd.R_after (ok := (fun k_ => some k_ ≠ (.slice Ao11 t397.length co11 : Value).ownBlock ∧ some k_ ≠ (.slice Ao12 t400.length co12 : Value).ownBlock ∧ some k_ ≠ (.slice Ao36 t411.length co36 : Value).ownBlock)) (R_ HO416.out) hg hat); have n5_ := am_ (blk_grown (g := gb419) (o := .cells #[.string t408, .string t409, .string t410, .slice Ao36 t411.length co36, .slice Ao37 t414.length co37] 26 (0, 0)) (blk_ BK419.out) hg (Kd.R_ne HO426.out BK419.out (by decide))); have n6_ := am_ (blk_grown (g := gb420) (o := .cells #[.string t394, .string t395, .string t396, .slice Ao11 t397.length co11, .slice Ao12 t400.length co12] 26 (0, 0)) (blk_ BK420.out) hg (Kd.R_ne HO426.out BK420.out (by decide))); have n7_ := am_ (hb); have n8_ := am_ (ho); clear HO_394003 HO_394004 BK393 HO413 HO416 BK419 BK420 HB HO426; have HO_394003 := n0_; have HO_394004 := n1_; have BK393 := n2_; have HO413 := n3_; have HO416 := n4_; have BK419 := n5_; have BK420 := n6_; have HB := n7_; have HO429 := n8_; clear n0_ n1_ n2_ n3_ n4_ n5_ n6_ n7_ n8_ ho hb hg hat; obtain ⟨Ao48, co48, eo48⟩ := Kd.R_slice HO429.out; subst eo48; have hcz49_0 : w47.cell? ⟨gb420, 0, none⟩ = some (.string t394) := (blk_cell BK420.out 0).trans rfl; have hcz49_1 : w47.cell? ⟨gb420, 1, none⟩ = some (.string t395) := (blk_cell BK420.out 1).trans rfl; have hcz49_2 : w47.cell? ⟨gb420, 2, none⟩ = some (.string t396) := (blk_cell BK420.out 2).trans rfl; have hcz49_3 : w47.cell? ⟨gb420, 3, none⟩ = some (.slice Ao11 t397.length co11) := (blk_cell BK420.out 3).trans rfl; have hcz49_4 : w47.cell? ⟨gb420, 4, none⟩ = some (.slice Ao12 t400.length co12) := (blk_cell BK420.out 4).trans rfl; have hfz49_0 := blk_frozen BK420.out 0; have hfz49_1 := blk_frozen BK420.out 1; have hfz49_2 := blk_frozen BK420.out 2; have hfz49_3 := blk_frozen BK420.out 3; have hfz49_4 := blk_frozen BK420.out 4))
        (try simp only [Act.put, List.setIfInBounds_toArray, List.set_cons_zero, List.set_cons_succ])
        go_cut [83] (fun v83 wc => ∃ (kq : Nat) (x83_30 : Bool), v83 = .bool x83_30 ∧ Aside0 (tolllaw18_HeadFields.j2 kq x9_19 t417 t418 x83_30 t408 t409 t410 t411 t414 t394 t395 t396 t397 y427 = some r) ∧ Aside0 (kq ≤ kj19) ∧ Aside0 (Kd.R k35 35 wc w.heap.size (fun k_ => some k_ ≠ ((.slice Ao12 t400.length co12) : Value).ownBlock ∧ some k_ ≠ ((.slice Ao36 t411.length co36) : Value).ownBlock ∧ some k_ ≠ ((.slice Ao37 t414.length co37) : Value).ownBlock ∧ some k_ ≠ ((.slice Ao48 y427.length co48) : Value).ownBlock) (.slice Ao11 t397.length co11) t397) ∧ Aside0 (Kd.R k35 35 wc w.heap.size (fun k_ => some k_ ≠ ((.slice Ao11 t397.length co11) : Value).ownBlock ∧ some k_ ≠ ((.slice Ao36 t411.length co36) : Value).ownBlock ∧ some k_ ≠ ((.slice Ao37 t414.length co37) : Value).ownBlock ∧ some k_ ≠ ((.slice Ao11 t397.length co11) : Value).ownBlock ∧ some k_ ≠ ((.slice Ao48 y427.length co48) : Value).ownBlock) (.slice Ao12 t400.length co12) t400) ∧ Aside0 (Kd.R k35 35 wc w.heap.size (fun k_ => some k_ ≠ ((.slice Ao11 t397.length co11) : Value).ownBlock ∧ some k_ ≠ ((.slice Ao12 t400.length co12) : Value).ownBlock ∧ some k_ ≠ ((.slice Ao37 t414.length co37) : Value).ownBlock ∧ some k_ ≠ ((.slice Ao11 t397.length co11) : Value).ownBlock ∧ some k_ ≠ ((.slice Ao48 y427.length co48) : Value).ownBlock) (.slice Ao36 t411.length co36) t411) ∧ Aside0 (Kd.R k35 35 wc w.heap.size (fun k_ => some k_ ≠ ((.slice Ao11 t397.length co11) : Value).ownBlock ∧ some k_ ≠ ((.slice Ao12 t400.length co12) : Value).ownBlock ∧ some k_ ≠ ((.slice Ao36 t411.length co36) : Value).ownBlock ∧ some k_ ≠ ((.slice Ao11 t397.length co11) : Value).ownBlock ∧ some k_ ≠ ((.slice Ao48 y427.length co48) : Value).ownBlock) (.slice Ao37 t414.length co37) t414) ∧ Aside0 (Kd.R k35 35 wc w.heap.size (fun k_ => some k_ ≠ ((.slice Ao12 t400.length co12) : Value).ownBlock ∧ some k_ ≠ ((.slice Ao36 t411.length co36) : Value).ownBlock ∧ some k_ ≠ ((.slice Ao37 t414.length co37) : Value).ownBlock ∧ some k_ ≠ ((.slice Ao48 y427.length co48) : Value).ownBlock) (.slice Ao11 t397.length co11) t397) ∧ Aside0 (Kd.R k35 35 wc w.heap.size (fun k_ => some k_ ≠ ((.slice Ao11 t397.length co11) : Value).ownBlock ∧ some k_ ≠ ((.slice Ao12 t400.length co12) : Value).ownBlock ∧ some k_ ≠ ((.slice Ao36 t411.length co36) : Value).ownBlock ∧ some k_ ≠ ((.slice Ao37 t414.length co37) : Value).ownBlock ∧ some k_ ≠ ((.slice Ao11 t397.length co11) : Value).ownBlock) (.slice Ao48 y427.length co48) y427) ∧ Aside0 (wc.heap[gb393]? = some (.cells #[.string t394, .string t395, .string t396, (.slice Ao11 t397.length co11), (.slice Ao12 t400.length co12)] 26 (0, 0))) ∧ Aside0 (wc.heap[gb419]? = some (.cells #[.string t408, .string t409, .string t410, (.slice Ao36 t411.length co36), (.slice Ao37 t414.length co37)] 26 (0, 0))) ∧ Aside0 (wc.heap[gb420]? = some (.cells #[.string t394, .string t395, .string t396, (.slice Ao11 t397.length co11), (.slice Ao48 y427.length co48)] 26 (0, 0))) ∧ Aside0 (Below w.heap.size w wc))
        case first =>
         have H := HC31.out
         clear HC31
         replace H := Option.bind_eq_some_iff.mp H
         obtain ⟨t430, A500, H⟩ := H
         replace H : (if t430 = true then ((tollref05_Value.f kj19 t407).bind fun t431 => (if t431 = true then (if (y427.length : Int) > 30 then (tolllaw18_HeadFields.j2 kj19 x9_19 t417 t418 true t408 t409 t410 t411 t414 t394 t395 t396 t397 y427) else (if (x9_19.size : Int) > 1000 then (tolllaw18_HeadFields.j2 kj19 x9_19 t417 t418 true t408 t409 t410 t411 t414 t394 t395 t396 t397 y427) else ((tollref05_Same.f kj19 t406 (⟨#[104, 111, 115, 116]⟩ : ByteArray)).bind fun t432 => (tolllaw18_HeadFields.j2 kj19 x9_19 t417 t418 t432 t408 t409 t410 t411 t414 t394 t395 t396 t397 y427)))) else (tolllaw18_HeadFields.j2 kj19 x9_19 t417 t418 true t408 t409 t410 t411 t414 t394 t395 t396 t397 y427))) else (tolllaw18_HeadFields.j2 kj19 x9_19 t417 t418 true t408 t409 t410 t411 t414 t394 t395 t396 t397 y427)) = some r := H
         have A50 := Aside0.mk A500
         clear A500
         by_cases c51 : t430 = true
         ·subst c51
          have H1 : ((tollref05_Value.f kj19 t407).bind fun t431 => (if t431 = true then (if (y427.length : Int) > 30 then (tolllaw18_HeadFields.j2 kj19 x9_19 t417 t418 true t408 t409 t410 t411 t414 t394 t395 t396 t397 y427) else (if (x9_19.size : Int) > 1000 then (tolllaw18_HeadFields.j2 kj19 x9_19 t417 t418 true t408 t409 t410 t411 t414 t394 t395 t396 t397 y427) else ((tollref05_Same.f kj19 t406 (⟨#[104, 111, 115, 116]⟩ : ByteArray)).bind fun t432 => (tolllaw18_HeadFields.j2 kj19 x9_19 t417 t418 t432 t408 t409 t410 t411 t414 t394 t395 t396 t397 y427)))) else (tolllaw18_HeadFields.j2 kj19 x9_19 t417 t418 true t408 t409 t410 t411 t414 t394 t395 t396 t397 y427))) = some r := by rw [if_pos rfl] at H; exact H
          clear H
          have H := H1
          clear H1
          replace H := Option.bind_eq_some_iff.mp H
          obtain ⟨t431, A520, H⟩ := H
          replace H : (if t431 = true then (if (y427.length : Int) > 30 then (tolllaw18_HeadFields.j2 kj19 x9_19 t417 t418 true t408 t409 t410 t411 t414 t394 t395 t396 t397 y427) else (if (x9_19.size : Int) > 1000 then (tolllaw18_HeadFields.j2 kj19 x9_19 t417 t418 true t408 t409 t410 t411 t414 t394 t395 t396 t397 y427) else ((tollref05_Same.f kj19 t406 (⟨#[104, 111, 115, 116]⟩ : ByteArray)).bind fun t432 => (tolllaw18_HeadFields.j2 kj19 x9_19 t417 t418 t432 t408 t409 t410 t411 t414 t394 t395 t396 t397 y427)))) else (tolllaw18_HeadFields.j2 kj19 x9_19 t417 t418 true t408 t409 t410 t411 t414 t394 t395 t396 t397 y427)) = some r := H
          have A52 := Aside0.mk A520
          clear A520
          by_cases c53 : t431 = true
          ·subst c53
           have H1 : (if (y427.length : Int) > 30 then (tolllaw18_HeadFields.j2 kj19 x9_19 t417 t418 true t408 t409 t410 t411 t414 t394 t395 t396 t397 y427) else (if (x9_19.size : Int) > 1000 then (tolllaw18_HeadFields.j2 kj19 x9_19 t417 t418 true t408 t409 t410 t411 t414 t394 t395 t396 t397 y427) else ((tollref05_Same.f kj19 t406 (⟨#[104, 111, 115, 116]⟩ : ByteArray)).bind fun t432 => (tolllaw18_HeadFields.j2 kj19 x9_19 t417 t418 t432 t408 t409 t410 t411 t414 t394 t395 t396 t397 y427)))) = some r := by rw [if_pos rfl] at H; exact H
           clear H
           have H := H1
           clear H1
           by_cases c54 : (y427.length : Int) > 30
           ·rw [if_pos c54] at H
            have c54b0 : decide (30 < (y427.length : Int)) = true := decide_eq_true c54
            have c54b1 : decide (30 < y427.length) = true := decide_eq_true (by omega)
            clear c54
            (first | rw [c54b0] | rw [c54b1] | rw [c54b2] | (simp only [i64_w, i32_w]; rw [c54b0]) | skip)
            have H' := Aside0.mk H
            clear H
            go_wp2_with (first | ((with_reducible refine gate_callee (f := 15) rfl ?_); refine goesL_ (some 62) rfl rfl Tryd.func15 kr_ rfl #[.string t406] rfl rl_ ?_; (with_reducible refine (tollref05_Token.calls kj19 t406 true _ A50.out).mono ?_); rintro e w' ⟨rfl, ⟨nd, rfl⟩⟩; refine ⟨_, rfl, ?_⟩) | (go_at_call 16; (with_reducible refine (tollref05_Value.calls kj19 t407 true _ A52.out).mono ?_); rintro e w' ⟨rfl, ⟨nd, rfl⟩⟩; have hnb55 := NB420_393.out; have hnc55 := NB393_420.out; have hnb56 := NB420_419.out; have hnc56 := NB419_420.out; have hcz57_0 : w47.cell? ⟨gb420, 0, none⟩ = some (.string t394) := (blk_cell BK420.out 0).trans rfl; have hcz57_1 : w47.cell? ⟨gb420, 1, none⟩ = some (.string t395) := (blk_cell BK420.out 1).trans rfl; have hcz57_2 : w47.cell? ⟨gb420, 2, none⟩ = some (.string t396) := (blk_cell BK420.out 2).trans rfl; have hcz57_3 : w47.cell? ⟨gb420, 3, none⟩ = some (.slice Ao11 t397.length co11) := (blk_cell BK420.out 3).trans rfl; have hcz57_4 : w47.cell? ⟨gb420, 4, none⟩ = some (.slice Ao12 t400.length co12) := (blk_cell BK420.out 4).trans rfl; have hfz57_0 := blk_frozen BK420.out 0; have hfz57_1 := blk_frozen BK420.out 1; have hfz57_2 := blk_frozen BK420.out 2; have hfz57_3 := blk_frozen BK420.out 3; have hfz57_4 := blk_frozen BK420.out 4))
            go_meet
            case rel => exact ⟨_, (true), sd_, H', ⟨by have := HJ5.out; have := HJ19.out; first | omega | exact Nat.le_refl _⟩, ⟨by (with_reducible repeat (first | apply Kd.R_alloc | apply Kd.R_drewN | apply Kd.R_drew)); exact Kd.R_mono (Kd.R_far (p := ⟨gb420, 4, none⟩) (Kd.R_types HO_394003.out BK420.out (by decide)) (fun _ hk => hk.2) (.slice Ao48 y427.length co48)) (fun _ hk => ⟨hk.1.1.1, ⟨hk.1.1.2.1, ⟨hk.1.1.2.2, hk.1.2⟩⟩⟩)⟩, ⟨by (with_reducible repeat (first | apply Kd.R_alloc | apply Kd.R_drewN | apply Kd.R_drew)); exact Kd.R_mono (Kd.R_far (p := ⟨gb420, 4, none⟩) (Kd.R_types HO_394004.out BK420.out (by decide)) (fun _ hk => hk.2) (.slice Ao48 y427.length co48)) (fun _ hk => ⟨hk.1.1.1, ⟨hk.1.1.2.1, ⟨hk.1.1.2.2, ⟨hk.1.1.1, hk.1.2⟩⟩⟩⟩)⟩, ⟨by (with_reducible repeat (first | apply Kd.R_alloc | apply Kd.R_drewN | apply Kd.R_drew)); exact Kd.R_mono (Kd.R_far (p := ⟨gb420, 4, none⟩) (Kd.R_types HO413.out BK420.out (by decide)) (fun _ hk => hk.2) (.slice Ao48 y427.length co48)) (fun _ hk => ⟨hk.1.1.1, ⟨hk.1.1.2.1, ⟨hk.1.1.2.2, ⟨hk.1.1.1, hk.1.2⟩⟩⟩⟩)⟩, ⟨by (with_reducible repeat (first | apply Kd.R_alloc | apply Kd.R_drewN | apply Kd.R_drew)); exact Kd.R_mono (Kd.R_far (p := ⟨gb420, 4, none⟩) (Kd.R_types HO416.out BK420.out (by decide)) (fun _ hk => hk.2) (.slice Ao48 y427.length co48)) (fun _ hk => ⟨hk.1.1.1, ⟨hk.1.1.2.1, ⟨hk.1.1.2.2, ⟨hk.1.1.1, hk.1.2⟩⟩⟩⟩)⟩, ⟨by (with_reducible repeat (first | apply Kd.R_alloc | apply Kd.R_drewN | apply Kd.R_drew)); exact Kd.R_mono (Kd.R_far (p := ⟨gb420, 4, none⟩) (Kd.R_types HO_394003.out BK420.out (by decide)) (fun _ hk => hk.2) (.slice Ao48 y427.length co48)) (fun _ hk => ⟨hk.1.1.1, ⟨hk.1.1.2.1, ⟨hk.1.1.2.2, hk.1.2⟩⟩⟩)⟩, ⟨by (with_reducible repeat (first | apply Kd.R_alloc | apply Kd.R_drewN | apply Kd.R_drew)); exact Kd.R_mono (Kd.R_far (p := ⟨gb420, 4, none⟩) (Kd.R_types HO429.out BK420.out (by decide)) (fun _ hk => hk.2) (.slice Ao48 y427.length co48)) (fun _ hk => ⟨hk.1.1, ⟨hk.1.2.1, ⟨hk.1.2.2.1, ⟨hk.1.2.2.2, hk.1.1⟩⟩⟩⟩)⟩, ⟨by (with_reducible repeat (first | refine blk_drewN ?_ _ | refine blk_drew ?_ | refine blk_alloc ?_ _)); refine blk_far ?_ NB393_420.out _; (with_reducible repeat (first | refine blk_drewN ?_ _ | refine blk_drew ?_ | refine blk_alloc ?_ _)); exact BK393.out⟩, ⟨by (with_reducible repeat (first | refine blk_drewN ?_ _ | refine blk_drew ?_ | refine blk_alloc ?_ _)); refine blk_far ?_ NB419_420.out _; (with_reducible repeat (first | refine blk_drewN ?_ _ | refine blk_drew ?_ | refine blk_alloc ?_ _)); exact BK419.out⟩, ⟨by (with_reducible repeat (first | refine blk_drewN ?_ _ | refine blk_drew ?_ | refine blk_alloc ?_ _)); refine blk_put (cs := #[.string t394, .string t395, .string t396, .slice Ao11 t397.length co11, .slice Ao12 t400.length co12]) ?_ 4 _ rfl; (with_reducible repeat (first | refine blk_drewN ?_ _ | refine blk_drew ?_ | refine blk_alloc ?_ _)); exact BK420.out⟩, ⟨bel_ HB.out⟩⟩
           ·rw [if_neg c54] at H
            have c54b0 : decide (30 < (y427.length : Int)) = false := decide_eq_false c54
            have c54b1 : decide (30 < y427.length) = false := decide_eq_false (by omega)
            clear c54
            (first | rw [c54b0] | rw [c54b1] | rw [c54b2] | (simp only [i64_w, i32_w]; rw [c54b0]) | skip)
            by_cases c58 : (x9_19.size : Int) > 1000
            ·rw [if_pos c58] at H
             have c58b0 : decide (1000 < (x9_19.size : Int)) = true := decide_eq_true c58
             have c58b1 : decide (1000 < x9_19.size) = true := decide_eq_true (by omega)
             clear c58
             have H' := Aside0.mk H
             clear H
             go_wp2_with (first | ((with_reducible refine gate_callee (f := 15) rfl ?_); refine goesL_ (some 62) rfl rfl Tryd.func15 kr_ rfl #[.string t406] rfl rl_ ?_; (with_reducible refine (tollref05_Token.calls kj19 t406 true _ A50.out).mono ?_); rintro e w' ⟨rfl, ⟨nd, rfl⟩⟩; refine ⟨_, rfl, ?_⟩) | (go_at_call 16; (with_reducible refine (tollref05_Value.calls kj19 t407 true _ A52.out).mono ?_); rintro e w' ⟨rfl, ⟨nd, rfl⟩⟩; have hnb59 := NB420_393.out; have hnc59 := NB393_420.out; have hnb60 := NB420_419.out; have hnc60 := NB419_420.out; have hcz61_0 : w47.cell? ⟨gb420, 0, none⟩ = some (.string t394) := (blk_cell BK420.out 0).trans rfl; have hcz61_1 : w47.cell? ⟨gb420, 1, none⟩ = some (.string t395) := (blk_cell BK420.out 1).trans rfl; have hcz61_2 : w47.cell? ⟨gb420, 2, none⟩ = some (.string t396) := (blk_cell BK420.out 2).trans rfl; have hcz61_3 : w47.cell? ⟨gb420, 3, none⟩ = some (.slice Ao11 t397.length co11) := (blk_cell BK420.out 3).trans rfl; have hcz61_4 : w47.cell? ⟨gb420, 4, none⟩ = some (.slice Ao12 t400.length co12) := (blk_cell BK420.out 4).trans rfl; have hfz61_0 := blk_frozen BK420.out 0; have hfz61_1 := blk_frozen BK420.out 1; have hfz61_2 := blk_frozen BK420.out 2; have hfz61_3 := blk_frozen BK420.out 3; have hfz61_4 := blk_frozen BK420.out 4))
             go_meet
             case rel => exact ⟨_, (true), sd_, H', ⟨by have := HJ5.out; have := HJ19.out; first | omega | exact Nat.le_refl _⟩, ⟨by (with_reducible repeat (first | apply Kd.R_alloc | apply Kd.R_drewN | apply Kd.R_drew)); exact Kd.R_mono (Kd.R_far (p := ⟨gb420, 4, none⟩) (Kd.R_types HO_394003.out BK420.out (by decide)) (fun _ hk => hk.2) (.slice Ao48 y427.length co48)) (fun _ hk => ⟨hk.1.1.1, ⟨hk.1.1.2.1, ⟨hk.1.1.2.2, hk.1.2⟩⟩⟩)⟩, ⟨by (with_reducible repeat (first | apply Kd.R_alloc | apply Kd.R_drewN | apply Kd.R_drew)); exact Kd.R_mono (Kd.R_far (p := ⟨gb420, 4, none⟩) (Kd.R_types HO_394004.out BK420.out (by decide)) (fun _ hk => hk.2) (.slice Ao48 y427.length co48)) (fun _ hk => ⟨hk.1.1.1, ⟨hk.1.1.2.1, ⟨hk.1.1.2.2, ⟨hk.1.1.1, hk.1.2⟩⟩⟩⟩)⟩, ⟨by (with_reducible repeat (first | apply Kd.R_alloc | apply Kd.R_drewN | apply Kd.R_drew)); exact Kd.R_mono (Kd.R_far (p := ⟨gb420, 4, none⟩) (Kd.R_types HO413.out BK420.out (by decide)) (fun _ hk => hk.2) (.slice Ao48 y427.length co48)) (fun _ hk => ⟨hk.1.1.1, ⟨hk.1.1.2.1, ⟨hk.1.1.2.2, ⟨hk.1.1.1, hk.1.2⟩⟩⟩⟩)⟩, ⟨by (with_reducible repeat (first | apply Kd.R_alloc | apply Kd.R_drewN | apply Kd.R_drew)); exact Kd.R_mono (Kd.R_far (p := ⟨gb420, 4, none⟩) (Kd.R_types HO416.out BK420.out (by decide)) (fun _ hk => hk.2) (.slice Ao48 y427.length co48)) (fun _ hk => ⟨hk.1.1.1, ⟨hk.1.1.2.1, ⟨hk.1.1.2.2, ⟨hk.1.1.1, hk.1.2⟩⟩⟩⟩)⟩, ⟨by (with_reducible repeat (first | apply Kd.R_alloc | apply Kd.R_drewN | apply Kd.R_drew)); exact Kd.R_mono (Kd.R_far (p := ⟨gb420, 4, none⟩) (Kd.R_types HO_394003.out BK420.out (by decide)) (fun _ hk => hk.2) (.slice Ao48 y427.length co48)) (fun _ hk => ⟨hk.1.1.1, ⟨hk.1.1.2.1, ⟨hk.1.1.2.2, hk.1.2⟩⟩⟩)⟩, ⟨by (with_reducible repeat (first | apply Kd.R_alloc | apply Kd.R_drewN | apply Kd.R_drew)); exact Kd.R_mono (Kd.R_far (p := ⟨gb420, 4, none⟩) (Kd.R_types HO429.out BK420.out (by decide)) (fun _ hk => hk.2) (.slice Ao48 y427.length co48)) (fun _ hk => ⟨hk.1.1, ⟨hk.1.2.1, ⟨hk.1.2.2.1, ⟨hk.1.2.2.2, hk.1.1⟩⟩⟩⟩)⟩, ⟨by (with_reducible repeat (first | refine blk_drewN ?_ _ | refine blk_drew ?_ | refine blk_alloc ?_ _)); refine blk_far ?_ NB393_420.out _; (with_reducible repeat (first | refine blk_drewN ?_ _ | refine blk_drew ?_ | refine blk_alloc ?_ _)); exact BK393.out⟩, ⟨by (with_reducible repeat (first | refine blk_drewN ?_ _ | refine blk_drew ?_ | refine blk_alloc ?_ _)); refine blk_far ?_ NB419_420.out _; (with_reducible repeat (first | refine blk_drewN ?_ _ | refine blk_drew ?_ | refine blk_alloc ?_ _)); exact BK419.out⟩, ⟨by (with_reducible repeat (first | refine blk_drewN ?_ _ | refine blk_drew ?_ | refine blk_alloc ?_ _)); refine blk_put (cs := #[.string t394, .string t395, .string t396, .slice Ao11 t397.length co11, .slice Ao12 t400.length co12]) ?_ 4 _ rfl; (with_reducible repeat (first | refine blk_drewN ?_ _ | refine blk_drew ?_ | refine blk_alloc ?_ _)); exact BK420.out⟩, ⟨bel_ HB.out⟩⟩
            ·rw [if_neg c58] at H
             have c58b0 : decide (1000 < (x9_19.size : Int)) = false := decide_eq_false c58
             have c58b1 : decide (1000 < x9_19.size) = false := decide_eq_false (by omega)
             clear c58
             replace H := Option.bind_eq_some_iff.mp H
             obtain ⟨t432, A620, H⟩ := H
             replace H : (tolllaw18_HeadFields.j2 kj19 x9_19 t417 t418 t432 t408 t409 t410 t411 t414 t394 t395 t396 t397 y427) = some r := H
             have A62 := Aside0.mk A620
             clear A620
             have H' := Aside0.mk H
             clear H
             go_wp2_with (first | ((with_reducible refine gate_callee (f := 15) rfl ?_); refine goesL_ (some 62) rfl rfl Tryd.func15 kr_ rfl #[.string t406] rfl rl_ ?_; (with_reducible refine (tollref05_Token.calls kj19 t406 true _ A50.out).mono ?_); rintro e w' ⟨rfl, ⟨nd, rfl⟩⟩; refine ⟨_, rfl, ?_⟩) | (go_at_call 16; (with_reducible refine (tollref05_Value.calls kj19 t407 true _ A52.out).mono ?_); rintro e w' ⟨rfl, ⟨nd, rfl⟩⟩; have hnb63 := NB420_393.out; have hnc63 := NB393_420.out; have hnb64 := NB420_419.out; have hnc64 := NB419_420.out; have hcz65_0 : w47.cell? ⟨gb420, 0, none⟩ = some (.string t394) := (blk_cell BK420.out 0).trans rfl; have hcz65_1 : w47.cell? ⟨gb420, 1, none⟩ = some (.string t395) := (blk_cell BK420.out 1).trans rfl; have hcz65_2 : w47.cell? ⟨gb420, 2, none⟩ = some (.string t396) := (blk_cell BK420.out 2).trans rfl; have hcz65_3 : w47.cell? ⟨gb420, 3, none⟩ = some (.slice Ao11 t397.length co11) := (blk_cell BK420.out 3).trans rfl; have hcz65_4 : w47.cell? ⟨gb420, 4, none⟩ = some (.slice Ao12 t400.length co12) := (blk_cell BK420.out 4).trans rfl; have hfz65_0 := blk_frozen BK420.out 0; have hfz65_1 := blk_frozen BK420.out 1; have hfz65_2 := blk_frozen BK420.out 2; have hfz65_3 := blk_frozen BK420.out 3; have hfz65_4 := blk_frozen BK420.out 4) | (go_at_call 17; (with_reducible refine (tollref05_Same.calls kj19 t406 (⟨#[104, 111, 115, 116]⟩ : ByteArray) t432 _ A62.out).mono ?_); rintro e w66 ⟨rfl, hb⟩; have n0_ := am_ (Kd.R_below (by (with_reducible repeat (first | apply Kd.R_alloc | apply Kd.R_drewN | apply Kd.R_drew)); exact (Kd.R_mono (Kd.R_far (p := ⟨gb420, 4, none⟩) (Kd.R_types HO_394003.out BK420.out (by decide)) (fun _ hk => hk.2) (.slice Ao48 y427.length co48)) (fun _ h_ => h_.1))) hb); have n1_ := am_ (Kd.R_below (by (with_reducible repeat (first | apply Kd.R_alloc | apply Kd.R_drewN | apply Kd.R_drew)); exact (Kd.R_mono (Kd.R_far (p := ⟨gb420, 4, none⟩) (Kd.R_types HO_394004.out BK420.out (by decide)) (fun _ hk => hk.2) (.slice Ao48 y427.length co48)) (fun _ h_ => h_.1))) hb); have n2_ := am_ (Kd.R_below (by (with_reducible repeat (first | apply Kd.R_alloc | apply Kd.R_drewN | apply Kd.R_drew)); exact (Kd.R_mono (Kd.R_far (p := ⟨gb420, 4, none⟩) (Kd.R_types HO413.out BK420.out (by decide)) (fun _ hk => hk.2) (.slice Ao48 y427.length co48)) (fun _ h_ => h_.1))) hb); have n3_ := am_ (Kd.R_below (by (with_reducible repeat (first | apply Kd.R_alloc | apply Kd.R_drewN | apply Kd.R_drew)); exact (Kd.R_mono (Kd.R_far (p := ⟨gb420, 4, none⟩) (Kd.R_types HO416.out BK420.out (by decide)) (fun _ hk => hk.2) (.slice Ao48 y427.length co48)) (fun _ h_ => h_.1))) hb); have n4_ := am_ (Kd.R_below (by (with_reducible repeat (first | apply Kd.R_alloc | apply Kd.R_drewN | apply Kd.R_drew)); exact (Kd.R_mono (Kd.R_far (p := ⟨gb420, 4, none⟩) (Kd.R_types HO429.out BK420.out (by decide)) (fun _ hk => hk.2) (.slice Ao48 y427.length co48)) (fun _ h_ => h_.1))) hb); have n5_ := am_ (blk_below (g := gb393) (o := .cells #[.string t394, .string t395, .string t396, .slice Ao11 t397.length co11, .slice Ao12 t400.length co12] 26 (0, 0)) (by (with_reducible repeat (first | refine blk_drewN ?_ _ | refine blk_drew ?_ | refine blk_alloc ?_ _)); refine blk_far ?_ NB393_420.out _; (with_reducible repeat (first | refine blk_drewN ?_ _ | refine blk_drew ?_ | refine blk_alloc ?_ _)); exact BK393.out) hb); have n6_ := am_ (blk_below (g := gb419) (o := .cells #[.string t408, .string t409, .string t410, .slice Ao36 t411.length co36, .slice Ao37 t414.length co37] 26 (0, 0)) (by (with_reducible repeat (first | refine blk_drewN ?_ _ | refine blk_drew ?_ | refine blk_alloc ?_ _)); refine blk_far ?_ NB419_420.out _; (with_reducible repeat (first | refine blk_drewN ?_ _ | refine blk_drew ?_ | refine blk_alloc ?_ _)); exact BK419.out) hb); have n7_ := am_ (blk_below (g := gb420) (o := .cells #[.string t394, .string t395, .string t396, .slice Ao11 t397.length co11, .slice Ao48 y427.length co48] 26 (0, 0)) (by (with_reducible repeat (first | refine blk_drewN ?_ _ | refine blk_drew ?_ | refine blk_alloc ?_ _)); refine blk_put (cs := #[.string t394, .string t395, .string t396, .slice Ao11 t397.length co11, .slice Ao12 t400.length co12]) ?_ 4 _ rfl; (with_reducible repeat (first | refine blk_drewN ?_ _ | refine blk_drew ?_ | refine blk_alloc ?_ _)); exact BK420.out) hb); have n8_ := am_ (below_step (bel_ HB.out) hb); clear HO_394003 HO_394004 HO413 HO416 HO429 BK393 BK419 BK420 HB; have HO_394003 := n0_; have HO_394004 := n1_; have HO413 := n2_; have HO416 := n3_; have HO429 := n4_; have BK393 := n5_; have BK419 := n6_; have BK420 := n7_; have HB := n8_; clear n0_ n1_ n2_ n3_ n4_ n5_ n6_ n7_ n8_; (try clear hb); (try clear hb2); (try clear hk); (try clear hi)))
             go_meet
             case rel => exact ⟨_, (t432), sd_, H', ⟨by have := HJ5.out; have := HJ19.out; first | omega | exact Nat.le_refl _⟩, ⟨by (with_reducible repeat (first | apply Kd.R_alloc | apply Kd.R_drewN | apply Kd.R_drew)); exact Kd.R_mono HO_394003.out (fun _ hk => ⟨hk.1.1, ⟨hk.1.2.1, ⟨hk.1.2.2, hk.2⟩⟩⟩)⟩, ⟨by (with_reducible repeat (first | apply Kd.R_alloc | apply Kd.R_drewN | apply Kd.R_drew)); exact Kd.R_mono HO_394004.out (fun _ hk => ⟨hk.1.1, ⟨hk.1.2.1, ⟨hk.1.2.2, ⟨hk.1.1, hk.2⟩⟩⟩⟩)⟩, ⟨by (with_reducible repeat (first | apply Kd.R_alloc | apply Kd.R_drewN | apply Kd.R_drew)); exact Kd.R_mono HO413.out (fun _ hk => ⟨hk.1.1, ⟨hk.1.2.1, ⟨hk.1.2.2, ⟨hk.1.1, hk.2⟩⟩⟩⟩)⟩, ⟨by (with_reducible repeat (first | apply Kd.R_alloc | apply Kd.R_drewN | apply Kd.R_drew)); exact Kd.R_mono HO416.out (fun _ hk => ⟨hk.1.1, ⟨hk.1.2.1, ⟨hk.1.2.2, ⟨hk.1.1, hk.2⟩⟩⟩⟩)⟩, ⟨by (with_reducible repeat (first | apply Kd.R_alloc | apply Kd.R_drewN | apply Kd.R_drew)); exact Kd.R_mono HO_394003.out (fun _ hk => ⟨hk.1.1, ⟨hk.1.2.1, ⟨hk.1.2.2, hk.2⟩⟩⟩)⟩, ⟨by (with_reducible repeat (first | apply Kd.R_alloc | apply Kd.R_drewN | apply Kd.R_drew)); exact Kd.R_mono HO429.out (fun _ hk => ⟨hk.1, ⟨hk.2.1, ⟨hk.2.2.1, ⟨hk.2.2.2, hk.1⟩⟩⟩⟩)⟩, ⟨by (with_reducible repeat (first | refine blk_drewN ?_ _ | refine blk_drew ?_ | refine blk_alloc ?_ _)); exact BK393.out⟩, ⟨by (with_reducible repeat (first | refine blk_drewN ?_ _ | refine blk_drew ?_ | refine blk_alloc ?_ _)); exact BK419.out⟩, ⟨by (with_reducible repeat (first | refine blk_drewN ?_ _ | refine blk_drew ?_ | refine blk_alloc ?_ _)); exact BK420.out⟩, ⟨bel_ HB.out⟩⟩
          ·replace c53 := Bool.eq_false_iff.mpr c53
           subst c53
           have H1 : (tolllaw18_HeadFields.j2 kj19 x9_19 t417 t418 true t408 t409 t410 t411 t414 t394 t395 t396 t397 y427) = some r := by rw [if_neg (show ¬ (false = true) by decide)] at H; exact H
           clear H
           have H := H1
           clear H1
           have H' := Aside0.mk H
           clear H
           go_wp2_with (first | ((with_reducible refine gate_callee (f := 15) rfl ?_); refine goesL_ (some 62) rfl rfl Tryd.func15 kr_ rfl #[.string t406] rfl rl_ ?_; (with_reducible refine (tollref05_Token.calls kj19 t406 true _ A50.out).mono ?_); rintro e w' ⟨rfl, ⟨nd, rfl⟩⟩; refine ⟨_, rfl, ?_⟩) | (go_at_call 16; (with_reducible refine (tollref05_Value.calls kj19 t407 false _ A52.out).mono ?_); rintro e w' ⟨rfl, ⟨nd, rfl⟩⟩))
           go_meet
           case rel => exact ⟨_, (true), sd_, H', ⟨by have := HJ5.out; have := HJ19.out; first | omega | exact Nat.le_refl _⟩, ⟨by (with_reducible repeat (first | apply Kd.R_alloc | apply Kd.R_drewN | apply Kd.R_drew)); exact Kd.R_mono (Kd.R_far (p := ⟨gb420, 4, none⟩) (Kd.R_types HO_394003.out BK420.out (by decide)) (fun _ hk => hk.2) (.slice Ao48 y427.length co48)) (fun _ hk => ⟨hk.1.1.1, ⟨hk.1.1.2.1, ⟨hk.1.1.2.2, hk.1.2⟩⟩⟩)⟩, ⟨by (with_reducible repeat (first | apply Kd.R_alloc | apply Kd.R_drewN | apply Kd.R_drew)); exact Kd.R_mono (Kd.R_far (p := ⟨gb420, 4, none⟩) (Kd.R_types HO_394004.out BK420.out (by decide)) (fun _ hk => hk.2) (.slice Ao48 y427.length co48)) (fun _ hk => ⟨hk.1.1.1, ⟨hk.1.1.2.1, ⟨hk.1.1.2.2, ⟨hk.1.1.1, hk.1.2⟩⟩⟩⟩)⟩, ⟨by (with_reducible repeat (first | apply Kd.R_alloc | apply Kd.R_drewN | apply Kd.R_drew)); exact Kd.R_mono (Kd.R_far (p := ⟨gb420, 4, none⟩) (Kd.R_types HO413.out BK420.out (by decide)) (fun _ hk => hk.2) (.slice Ao48 y427.length co48)) (fun _ hk => ⟨hk.1.1.1, ⟨hk.1.1.2.1, ⟨hk.1.1.2.2, ⟨hk.1.1.1, hk.1.2⟩⟩⟩⟩)⟩, ⟨by (with_reducible repeat (first | apply Kd.R_alloc | apply Kd.R_drewN | apply Kd.R_drew)); exact Kd.R_mono (Kd.R_far (p := ⟨gb420, 4, none⟩) (Kd.R_types HO416.out BK420.out (by decide)) (fun _ hk => hk.2) (.slice Ao48 y427.length co48)) (fun _ hk => ⟨hk.1.1.1, ⟨hk.1.1.2.1, ⟨hk.1.1.2.2, ⟨hk.1.1.1, hk.1.2⟩⟩⟩⟩)⟩, ⟨by (with_reducible repeat (first | apply Kd.R_alloc | apply Kd.R_drewN | apply Kd.R_drew)); exact Kd.R_mono (Kd.R_far (p := ⟨gb420, 4, none⟩) (Kd.R_types HO_394003.out BK420.out (by decide)) (fun _ hk => hk.2) (.slice Ao48 y427.length co48)) (fun _ hk => ⟨hk.1.1.1, ⟨hk.1.1.2.1, ⟨hk.1.1.2.2, hk.1.2⟩⟩⟩)⟩, ⟨by (with_reducible repeat (first | apply Kd.R_alloc | apply Kd.R_drewN | apply Kd.R_drew)); exact Kd.R_mono (Kd.R_far (p := ⟨gb420, 4, none⟩) (Kd.R_types HO429.out BK420.out (by decide)) (fun _ hk => hk.2) (.slice Ao48 y427.length co48)) (fun _ hk => ⟨hk.1.1, ⟨hk.1.2.1, ⟨hk.1.2.2.1, ⟨hk.1.2.2.2, hk.1.1⟩⟩⟩⟩)⟩, ⟨by (with_reducible repeat (first | refine blk_drewN ?_ _ | refine blk_drew ?_ | refine blk_alloc ?_ _)); refine blk_far ?_ NB393_420.out _; (with_reducible repeat (first | refine blk_drewN ?_ _ | refine blk_drew ?_ | refine blk_alloc ?_ _)); exact BK393.out⟩, ⟨by (with_reducible repeat (first | refine blk_drewN ?_ _ | refine blk_drew ?_ | refine blk_alloc ?_ _)); refine blk_far ?_ NB419_420.out _; (with_reducible repeat (first | refine blk_drewN ?_ _ | refine blk_drew ?_ | refine blk_alloc ?_ _)); exact BK419.out⟩, ⟨by (with_reducible repeat (first | refine blk_drewN ?_ _ | refine blk_drew ?_ | refine blk_alloc ?_ _)); refine blk_put (cs := #[.string t394, .string t395, .string t396, .slice Ao11 t397.length co11, .slice Ao12 t400.length co12]) ?_ 4 _ rfl; (with_reducible repeat (first | refine blk_drewN ?_ _ | refine blk_drew ?_ | refine blk_alloc ?_ _)); exact BK420.out⟩, ⟨bel_ HB.out⟩⟩
         ·replace c51 := Bool.eq_false_iff.mpr c51
          subst c51
          have H1 : (tolllaw18_HeadFields.j2 kj19 x9_19 t417 t418 true t408 t409 t410 t411 t414 t394 t395 t396 t397 y427) = some r := by rw [if_neg (show ¬ (false = true) by decide)] at H; exact H
          clear H
          have H := H1
          clear H1
          have H' := Aside0.mk H
          clear H
          go_wp2_with (first | ((with_reducible refine gate_callee (f := 15) rfl ?_); refine goesL_ (some 62) rfl rfl Tryd.func15 kr_ rfl #[.string t406] rfl rl_ ?_; (with_reducible refine (tollref05_Token.calls kj19 t406 false _ A50.out).mono ?_); rintro e w' ⟨rfl, ⟨nd, rfl⟩⟩; refine ⟨_, rfl, ?_⟩))
          go_meet
          case rel => exact ⟨_, (true), sd_, H', ⟨by have := HJ5.out; have := HJ19.out; first | omega | exact Nat.le_refl _⟩, ⟨by (with_reducible repeat (first | apply Kd.R_alloc | apply Kd.R_drewN | apply Kd.R_drew)); exact Kd.R_mono (Kd.R_far (p := ⟨gb420, 4, none⟩) (Kd.R_types HO_394003.out BK420.out (by decide)) (fun _ hk => hk.2) (.slice Ao48 y427.length co48)) (fun _ hk => ⟨hk.1.1.1, ⟨hk.1.1.2.1, ⟨hk.1.1.2.2, hk.1.2⟩⟩⟩)⟩, ⟨by (with_reducible repeat (first | apply Kd.R_alloc | apply Kd.R_drewN | apply Kd.R_drew)); exact Kd.R_mono (Kd.R_far (p := ⟨gb420, 4, none⟩) (Kd.R_types HO_394004.out BK420.out (by decide)) (fun _ hk => hk.2) (.slice Ao48 y427.length co48)) (fun _ hk => ⟨hk.1.1.1, ⟨hk.1.1.2.1, ⟨hk.1.1.2.2, ⟨hk.1.1.1, hk.1.2⟩⟩⟩⟩)⟩, ⟨by (with_reducible repeat (first | apply Kd.R_alloc | apply Kd.R_drewN | apply Kd.R_drew)); exact Kd.R_mono (Kd.R_far (p := ⟨gb420, 4, none⟩) (Kd.R_types HO413.out BK420.out (by decide)) (fun _ hk => hk.2) (.slice Ao48 y427.length co48)) (fun _ hk => ⟨hk.1.1.1, ⟨hk.1.1.2.1, ⟨hk.1.1.2.2, ⟨hk.1.1.1, hk.1.2⟩⟩⟩⟩)⟩, ⟨by (with_reducible repeat (first | apply Kd.R_alloc | apply Kd.R_drewN | apply Kd.R_drew)); exact Kd.R_mono (Kd.R_far (p := ⟨gb420, 4, none⟩) (Kd.R_types HO416.out BK420.out (by decide)) (fun _ hk => hk.2) (.slice Ao48 y427.length co48)) (fun _ hk => ⟨hk.1.1.1, ⟨hk.1.1.2.1, ⟨hk.1.1.2.2, ⟨hk.1.1.1, hk.1.2⟩⟩⟩⟩)⟩, ⟨by (with_reducible repeat (first | apply Kd.R_alloc | apply Kd.R_drewN | apply Kd.R_drew)); exact Kd.R_mono (Kd.R_far (p := ⟨gb420, 4, none⟩) (Kd.R_types HO_394003.out BK420.out (by decide)) (fun _ hk => hk.2) (.slice Ao48 y427.length co48)) (fun _ hk => ⟨hk.1.1.1, ⟨hk.1.1.2.1, ⟨hk.1.1.2.2, hk.1.2⟩⟩⟩)⟩, ⟨by (with_reducible repeat (first | apply Kd.R_alloc | apply Kd.R_drewN | apply Kd.R_drew)); exact Kd.R_mono (Kd.R_far (p := ⟨gb420, 4, none⟩) (Kd.R_types HO429.out BK420.out (by decide)) (fun _ hk => hk.2) (.slice Ao48 y427.length co48)) (fun _ hk => ⟨hk.1.1, ⟨hk.1.2.1, ⟨hk.1.2.2.1, ⟨hk.1.2.2.2, hk.1.1⟩⟩⟩⟩)⟩, ⟨by (with_reducible repeat (first | refine blk_drewN ?_ _ | refine blk_drew ?_ | refine blk_alloc ?_ _)); refine blk_far ?_ NB393_420.out _; (with_reducible repeat (first | refine blk_drewN ?_ _ | refine blk_drew ?_ | refine blk_alloc ?_ _)); exact BK393.out⟩, ⟨by (with_reducible repeat (first | refine blk_drewN ?_ _ | refine blk_drew ?_ | refine blk_alloc ?_ _)); refine blk_far ?_ NB419_420.out _; (with_reducible repeat (first | refine blk_drewN ?_ _ | refine blk_drew ?_ | refine blk_alloc ?_ _)); exact BK419.out⟩, ⟨by (with_reducible repeat (first | refine blk_drewN ?_ _ | refine blk_drew ?_ | refine blk_alloc ?_ _)); refine blk_put (cs := #[.string t394, .string t395, .string t396, .slice Ao11 t397.length co11, .slice Ao12 t400.length co12]) ?_ 4 _ rfl; (with_reducible repeat (first | refine blk_drewN ?_ _ | refine blk_drew ?_ | refine blk_alloc ?_ _)); exact BK420.out⟩, ⟨bel_ HB.out⟩⟩
        case rest =>
         clear HC31
         try clear c1
         try clear c2
         try clear p2
         try clear c3
         try clear c4
         try clear c5
         try clear c6
         try clear p6
         try clear c9
         try clear c11
         try clear c12
         try clear c13
         try clear c14
         try clear c14b0
         try clear c14b1
         try clear c14b2
         try clear c15
         try clear c22
         try clear c22b0
         try clear c22b1
         try clear c23
         try clear c23b0
         try clear c23b1
         try clear c24
         try clear c24b0
         try clear c24b1
         try clear c24b2
         try clear c25
         try clear c25b0
         try clear c25b1
         try clear c25b2
         try clear c26
         try clear c26b0
         try clear c26b1
         try clear c26b2
         try clear c27
         try clear c27b0
         try clear c27b1
         try clear c27b2
         try clear c29
         try clear c30
         try clear c34
         try clear c40
         try clear c41
         try clear c51
         try clear c53
         try clear c54
         try clear c54b0
         try clear c54b1
         try clear c54b2
         try clear c55
         try clear c56
         try clear c58
         try clear c58b0
         try clear c58b1
         try clear c59
         try clear c60
         try clear c63
         try clear c64
         try clear p64
         try clear hcz10_0
         try clear hcz10_1
         try clear hcz10_2
         try clear hcz10_3
         try clear hcz10_4
         try clear hcz35_0
         try clear hcz35_1
         try clear hcz35_2
         try clear hcz35_3
         try clear hcz35_4
         try clear hcz38_0
         try clear hcz38_1
         try clear hcz38_2
         try clear hcz38_3
         try clear hcz38_4
         try clear hcz42_0
         try clear hcz42_1
         try clear hcz42_2
         try clear hcz42_3
         try clear hcz42_4
         try clear hcz45_0
         try clear hcz45_1
         try clear hcz45_2
         try clear hcz45_3
         try clear hcz45_4
         try clear hcz49_0
         try clear hcz49_1
         try clear hcz49_2
         try clear hcz49_3
         try clear hcz49_4
         try clear hcz57_0
         try clear hcz57_1
         try clear hcz57_2
         try clear hcz57_3
         try clear hcz57_4
         try clear hcz61_0
         try clear hcz61_1
         try clear hcz61_2
         try clear hcz61_3
         try clear hcz61_4
         try clear hcz65_0
         try clear hcz65_1
         try clear hcz65_2
         try clear hcz65_3
         try clear hcz65_4
         try clear hcz8_0
         try clear hcz8_1
         try clear hcz8_2
         try clear hcz8_3
         try clear hcz8_4
         try clear hfz10_0
         try clear hfz10_1
         try clear hfz10_2
         try clear hfz10_3
         try clear hfz10_4
         try clear hfz35_0
         try clear hfz35_1
         try clear hfz35_2
         try clear hfz35_3
         try clear hfz35_4
         try clear hfz38_0
         try clear hfz38_1
         try clear hfz38_2
         try clear hfz38_3
         try clear hfz38_4
         try clear hfz42_0
         try clear hfz42_1
         try clear hfz42_2
         try clear hfz42_3
         try clear hfz42_4
         try clear hfz45_0
         try clear hfz45_1
         try clear hfz45_2
         try clear hfz45_3
         try clear hfz45_4
         try clear hfz49_0
         try clear hfz49_1
         try clear hfz49_2
         try clear hfz49_3
         try clear hfz49_4
         try clear hfz57_0
         try clear hfz57_1
         try clear hfz57_2
         try clear hfz57_3
         try clear hfz57_4
         try clear hfz61_0
         try clear hfz61_1
         try clear hfz61_2
         try clear hfz61_3
         try clear hfz61_4
         try clear hfz65_0
         try clear hfz65_1
         try clear hfz65_2
         try clear hfz65_3
         try clear hfz65_4
         try clear hfz8_0
         try clear hfz8_1
         try clear hfz8_2
         try clear hfz8_3
         try clear hfz8_4
         try clear p2
         try clear p6
         obtain ⟨kq, x83_30, rfl, HA, HJ30, HO_394003, HO_394004, HO_420003, HO_420004, HO_421003, HO_421004, BK393, BK419, BK420, HB⟩ := hcut
         cases kq with
         | zero => exact absurd HA.out (by simp [tolllaw18_HeadFields.j2])
         | succ kj30 =>
          have H := HA.out
          clear HA
          simp only [tolllaw18_HeadFields.j2] at H
          by_cases c67 : x83_30 = true
          ·subst c67
           have H1 : ((tolllaw18_awake.f kj30).bind fun t433 => (some t433)) = some r := by rw [if_pos rfl] at H; exact H
           clear H
           have H := H1
           clear H1
           replace H := Option.bind_eq_some_iff.mp H
           obtain ⟨t433, A680, H⟩ := H
           replace H : (some t433) = some r := H
           have A68 := Aside0.mk A680
           clear A680
           obtain rfl := Option.some.inj H
           go_wp2_with (first | ((with_reducible refine gate_callee (f := 11) rfl ?_); refine goesL_ (some 84) rfl rfl Tryd.func11 kr_ rfl #[] rfl rl_ ?_; (with_reducible refine (tolllaw18_awake.calls kj30  t433 _ (gm_ HGL.out (bel_ HB.out)) A68.out).mono ?_); rintro e w69 ⟨rfl, hb⟩; refine ⟨_, rfl, ?_⟩; have n0_ := am_ (Kd.R_below (R_ HO_394003.out) hb); have n1_ := am_ (Kd.R_below (R_ HO_394004.out) hb); have n2_ := am_ (Kd.R_below (R_ HO_420003.out) hb); have n3_ := am_ (Kd.R_below (R_ HO_420004.out) hb); have n4_ := am_ (Kd.R_below (R_ HO_421003.out) hb); have n5_ := am_ (Kd.R_below (R_ HO_421004.out) hb); have n6_ := am_ (blk_below (g := gb393) (o := .cells #[.string t394, .string t395, .string t396, .slice Ao11 t397.length co11, .slice Ao12 t400.length co12] 26 (0, 0)) (blk_ BK393.out) hb); have n7_ := am_ (blk_below (g := gb419) (o := .cells #[.string t408, .string t409, .string t410, .slice Ao36 t411.length co36, .slice Ao37 t414.length co37] 26 (0, 0)) (blk_ BK419.out) hb); have n8_ := am_ (blk_below (g := gb420) (o := .cells #[.string t394, .string t395, .string t396, .slice Ao11 t397.length co11, .slice Ao48 y427.length co48] 26 (0, 0)) (blk_ BK420.out) hb); have n9_ := am_ (below_step (bel_ HB.out) hb); clear HO_394003 HO_394004 HO_420003 HO_420004 HO_421003 HO_421004 BK393 BK419 BK420 HB; have HO_394003 := n0_; have HO_394004 := n1_; have HO_420003 := n2_; have HO_420004 := n3_; have HO_421003 := n4_; have HO_421004 := n5_; have BK393 := n6_; have BK419 := n7_; have BK420 := n8_; have HB := n9_; clear n0_ n1_ n2_ n3_ n4_ n5_ n6_ n7_ n8_ n9_; (try clear hb); (try clear hb2); (try clear hk); (try clear hi)))
           go_ret
           exact ⟨fi_, bel_ HB.out⟩
          ·replace c67 := Bool.eq_false_iff.mpr c67
           subst c67
           have H1 : ((tollref07_SameAsk.f kj30 t408 t409 t410 t411 t414 t394 t395 t396 t397 y427).bind fun t434 => (if t434 = true then (if t417 = (x9_19.size : Int) then (if t418 = 0 then ((tolllaw18_awake.f kj30).bind fun t435 => (some t435)) else (none)) else (none)) else (none))) = some r := by rw [if_neg (show ¬ (false = true) by decide)] at H; exact H
           clear H
           have H := H1
           clear H1
           replace H := Option.bind_eq_some_iff.mp H
           obtain ⟨t434, A700, H⟩ := H
           replace H : (if t434 = true then (if t417 = (x9_19.size : Int) then (if t418 = 0 then ((tolllaw18_awake.f kj30).bind fun t435 => (some t435)) else (none)) else (none)) else (none)) = some r := H
           have A70 := Aside0.mk A700
           clear A700
           by_cases c71 : t434 = true
           ·subst c71
            have H1 : (if t417 = (x9_19.size : Int) then (if t418 = 0 then ((tolllaw18_awake.f kj30).bind fun t435 => (some t435)) else (none)) else (none)) = some r := by rw [if_pos rfl] at H; exact H
            clear H
            have H := H1
            clear H1
            by_cases c72 : t417 = (x9_19.size : Int)
            ·rw [if_pos c72] at H
             have c72b0 : (t417 == (x9_19.size : Int)) = true := beq_iff_eq.mpr c72
             have c72b1 : (t417 != (x9_19.size : Int)) = false := bne_eq_false_iff_eq.mpr c72
             clear c72
             by_cases c73 : t418 = 0
             ·rw [if_pos c73] at H
              have c73b0 : (t418 == 0) = true := beq_iff_eq.mpr c73
              have c73b1 : (t418 != 0) = false := bne_eq_false_iff_eq.mpr c73
              clear c73
              replace H := Option.bind_eq_some_iff.mp H
              obtain ⟨t435, A740, H⟩ := H
              replace H : (some t435) = some r := H
              have A74 := Aside0.mk A740
              clear A740
              obtain rfl := Option.some.inj H
              have hnb75 := NB419_393.out
              have hnc75 := NB393_419.out
              have hnb76 := NB419_420.out
              have hnc76 := NB420_419.out
              have hcz77_0 : wc.cell? ⟨gb419, 0, none⟩ = some (.string t408) := (blk_cell BK419.out 0).trans rfl
              have hcz77_1 : wc.cell? ⟨gb419, 1, none⟩ = some (.string t409) := (blk_cell BK419.out 1).trans rfl
              have hcz77_2 : wc.cell? ⟨gb419, 2, none⟩ = some (.string t410) := (blk_cell BK419.out 2).trans rfl
              have hcz77_3 : wc.cell? ⟨gb419, 3, none⟩ = some (.slice Ao36 t411.length co36) := (blk_cell BK419.out 3).trans rfl
              have hcz77_4 : wc.cell? ⟨gb419, 4, none⟩ = some (.slice Ao37 t414.length co37) := (blk_cell BK419.out 4).trans rfl
              have hfz77_0 := blk_frozen BK419.out 0
              have hfz77_1 := blk_frozen BK419.out 1
              have hfz77_2 := blk_frozen BK419.out 2
              have hfz77_3 := blk_frozen BK419.out 3
              have hfz77_4 := blk_frozen BK419.out 4
              have hnb78 := NB420_393.out
              have hnc78 := NB393_420.out
              have hcz79_0 : wc.cell? ⟨gb420, 0, none⟩ = some (.string t394) := (blk_cell BK420.out 0).trans rfl
              have hcz79_1 : wc.cell? ⟨gb420, 1, none⟩ = some (.string t395) := (blk_cell BK420.out 1).trans rfl
              have hcz79_2 : wc.cell? ⟨gb420, 2, none⟩ = some (.string t396) := (blk_cell BK420.out 2).trans rfl
              have hcz79_3 : wc.cell? ⟨gb420, 3, none⟩ = some (.slice Ao11 t397.length co11) := (blk_cell BK420.out 3).trans rfl
              have hcz79_4 : wc.cell? ⟨gb420, 4, none⟩ = some (.slice Ao48 y427.length co48) := (blk_cell BK420.out 4).trans rfl
              have hfz79_0 := blk_frozen BK420.out 0
              have hfz79_1 := blk_frozen BK420.out 1
              have hfz79_2 := blk_frozen BK420.out 2
              have hfz79_3 := blk_frozen BK420.out 3
              have hfz79_4 := blk_frozen BK420.out 4
              go_wp2_with (first | ((with_reducible refine gate_callee (f := 10) rfl ?_); refine goesL_ (some 87) rfl rfl Tryd.func10 kr_ rfl #[.agg #[.string t408, .string t409, .string t410, .slice Ao36 t411.length co36, .slice Ao37 t414.length co37], .agg #[.string t394, .string t395, .string t396, .slice Ao11 t397.length co11, .slice Ao48 y427.length co48]] rfl rl_ ?_; (with_reducible refine (tollref07_SameAsk.calls kj30 t408 t409 t410 _ _ t411 _ _ t414 t394 t395 t396 _ _ t397 _ _ y427 true _ ?side1 ?side2 ?side3 ?side4 ?side5 ?side6 ?side7 ?side8 A70.out).mono ?_); (case side1 => exact C_ (Kd.R_reads' HO_420003.out).2.2); (case side2 => exact (Kd.R_reads' HO_420003.out).2.1); (case side3 => exact C_ (Kd.R_reads' HO_420004.out).2.2); (case side4 => exact (Kd.R_reads' HO_420004.out).2.1); (case side5 => exact C_ (Kd.R_reads' HO_421003.out).2.2); (case side6 => exact (Kd.R_reads' HO_421003.out).2.1); (case side7 => exact C_ (Kd.R_reads' HO_421004.out).2.2); (case side8 => exact (Kd.R_reads' HO_421004.out).2.1); rintro e w80 ⟨rfl, hb⟩; refine ⟨_, rfl, ?_⟩; have n0_ := am_ (Kd.R_below (R_ HO_394003.out) hb); have n1_ := am_ (Kd.R_below (R_ HO_394004.out) hb); have n2_ := am_ (Kd.R_below (R_ HO_420003.out) hb); have n3_ := am_ (Kd.R_below (R_ HO_420004.out) hb); have n4_ := am_ (Kd.R_below (R_ HO_421003.out) hb); have n5_ := am_ (Kd.R_below (R_ HO_421004.out) hb); have n6_ := am_ (blk_below (g := gb393) (o := .cells #[.string t394, .string t395, .string t396, .slice Ao11 t397.length co11, .slice Ao12 t400.length co12] 26 (0, 0)) (blk_ BK393.out) hb); have n7_ := am_ (blk_below (g := gb419) (o := .cells #[.string t408, .string t409, .string t410, .slice Ao36 t411.length co36, .slice Ao37 t414.length co37] 26 (0, 0)) (blk_ BK419.out) hb); have n8_ := am_ (blk_below (g := gb420) (o := .cells #[.string t394, .string t395, .string t396, .slice Ao11 t397.length co11, .slice Ao48 y427.length co48] 26 (0, 0)) (blk_ BK420.out) hb); have n9_ := am_ (below_step (bel_ HB.out) hb); clear HO_394003 HO_394004 HO_420003 HO_420004 HO_421003 HO_421004 BK393 BK419 BK420 HB; have HO_394003 := n0_; have HO_394004 := n1_; have HO_420003 := n2_; have HO_420004 := n3_; have HO_421003 := n4_; have HO_421004 := n5_; have BK393 := n6_; have BK419 := n7_; have BK420 := n8_; have HB := n9_; clear n0_ n1_ n2_ n3_ n4_ n5_ n6_ n7_ n8_ n9_; (try clear hb); (try clear hb2); (try clear hk); (try clear hi)) | (go_at_call 11; (with_reducible refine (tolllaw18_awake.calls kj30  t435 _ (gm_ HGL.out (bel_ HB.out)) A74.out).mono ?_); rintro e w81 ⟨rfl, hb⟩; have n0_ := am_ (Kd.R_below (R_ HO_394003.out) hb); have n1_ := am_ (Kd.R_below (R_ HO_394004.out) hb); have n2_ := am_ (Kd.R_below (R_ HO_420003.out) hb); have n3_ := am_ (Kd.R_below (R_ HO_420004.out) hb); have n4_ := am_ (Kd.R_below (R_ HO_421003.out) hb); have n5_ := am_ (Kd.R_below (R_ HO_421004.out) hb); have n6_ := am_ (blk_below (g := gb393) (o := .cells #[.string t394, .string t395, .string t396, .slice Ao11 t397.length co11, .slice Ao12 t400.length co12] 26 (0, 0)) (blk_ BK393.out) hb); have n7_ := am_ (blk_below (g := gb419) (o := .cells #[.string t408, .string t409, .string t410, .slice Ao36 t411.length co36, .slice Ao37 t414.length co37] 26 (0, 0)) (blk_ BK419.out) hb); have n8_ := am_ (blk_below (g := gb420) (o := .cells #[.string t394, .string t395, .string t396, .slice Ao11 t397.length co11, .slice Ao48 y427.length co48] 26 (0, 0)) (blk_ BK420.out) hb); have n9_ := am_ (below_step (bel_ HB.out) hb); clear HO_394003 HO_394004 HO_420003 HO_420004 HO_421003 HO_421004 BK393 BK419 BK420 HB; have HO_394003 := n0_; have HO_394004 := n1_; have HO_420003 := n2_; have HO_420004 := n3_; have HO_421003 := n4_; have HO_421004 := n5_; have BK393 := n6_; have BK419 := n7_; have BK420 := n8_; have HB := n9_; clear n0_ n1_ n2_ n3_ n4_ n5_ n6_ n7_ n8_ n9_; (try clear hb); (try clear hb2); (try clear hk); (try clear hi)))
              go_ret
              exact ⟨fi_, bel_ HB.out⟩
             ·rw [if_neg c73] at H
              exact absurd H (by simp)
            ·rw [if_neg c72] at H
             exact absurd H (by simp)
           ·replace c71 := Bool.eq_false_iff.mpr c71
            subst c71
            have H1 : (none) = some r := by rw [if_neg (show ¬ (false = true) by decide)] at H; exact H
            clear H
            have H := H1
            clear H1
            exact absurd H (by simp)
       ·rw [if_neg c30] at H
        exact absurd H (by simp)
      ·rw [if_neg c29] at H
       exact absurd H (by simp)

/-- THE ONE PURE STATEMENT of tolllaw18_HeadFields. -/
def tolllaw18_HeadFields.Pure : Prop := ∀ (a0_0 : ByteArray) (a0_1 : ByteArray) (a0_2 : ByteArray) (l0_3 : List (S35)) (l0_4 : List (S35)) (a1 : ByteArray) (a2 : ByteArray), ((a0_0.size ≤ 140737488351232) ∧ (a0_1.size ≤ 140737488351232) ∧ (a0_2.size ≤ 140737488351232) ∧ (l0_3.length ≤ maxLen ∧ l0_3.length * 32 ≤ 140737488351232 ∧ ∀ y ∈ l0_3, (y.f0.size ≤ 140737488351232) ∧ (y.f1.size ≤ 140737488351232)) ∧ (l0_4.length ≤ maxLen ∧ l0_4.length * 32 ≤ 140737488351232 ∧ ∀ y ∈ l0_4, (y.f0.size ≤ 140737488351232) ∧ (y.f1.size ≤ 140737488351232))) → (a1.size ≤ 140737488351232) → (a2.size ≤ 140737488351232) → ∃ k, tolllaw18_HeadFields.f k a0_0 a0_1 a0_2 l0_3 l0_4 a1 a2 = some true

end Go.Proofs.YtpmllmfamjpinaaDoor.P
