-- written by wip/tool/hprint.py of this repo: the kit's print, with contracts by hand joined; Lean checks it.
import Derived.Test.YtpmllmfamjpinaaDoorPx0
import Derived.Test.YtpmllmfamjpinaaDoorPx5
import Derived.Test.YtpmllmfamjpinaaDoorPx6
import Derived.Test.YtpmllmfamjpinaaDoorPx7
import Derived.Test.YtpmllmfamjpinaaDoorPx10
import Derived.Test.YtpmllmfamjpinaaDoorPx12
import Derived.Test.YtpmllmfamjpinaaDoorPx16
namespace Go.Proofs.YtpmllmfamjpinaaDoor.P
open Go.RowKit Go.Proofs.YtpmllmfamjpinaaDoorW.PrintWords Go.Proofs.YtpmllmfamjpinaaDoorW.PrintLast Go.Proofs.YtpmllmfamjpinaaDoorW.PrintMore
attribute [local go_sem] max2_int min2_int max_two min_two max_three min_three max_four min_four   -- for this text's walks alone
set_option linter.unusedVariables false
set_option linter.unusedSimpArgs false

/-! ### tolllaw18_HeadMethods: function 7 -/
mutual
def tolllaw18_HeadMethods.j0 : Nat → ByteArray → ByteArray → Int → ByteArray → ByteArray → ByteArray → List (S35) → List (S35) → Option (Bool)
 | 0, _, _, _, _, _, _, _, _ => none
 | k + 1, x1, x2, x8, x437000, x437001, x437002, x437003, x437004 => (head_Lay.f k x1 x437001 x2 x437003 x437004).bind fun bt451 => (if x8 = 0 then ((tollref06_Method.f k x1).bind fun t454 => (if t454 = true then ((tollref03_Is.f k x2).bind fun t455 => (tolllaw18_HeadMethods.j1 k bt451.1 bt451.2 (!t455) x1 x437001 x2 x437003 x437004)) else (tolllaw18_HeadMethods.j1 k bt451.1 bt451.2 true x1 x437001 x2 x437003 x437004))) else ((tolllaw18_awake.f k).bind fun t453 => (some t453)))
def tolllaw18_HeadMethods.j1 : Nat → ByteArray → Int → Bool → ByteArray → ByteArray → ByteArray → List (S35) → List (S35) → Option (Bool)
 | 0, _, _, _, _, _, _, _, _ => none
 | k + 1, x10, x11, x46, x451000, x451001, x451002, x451003, x451004 => if x46 = true then (if x10.toList = ([] : List UInt8) then (if x11 = 1 then ((tolllaw18_awake.f k).bind fun t456 => (some t456)) else (none)) else (none)) else (if x11 = 0 then ((head_Parse.f k x10).bind fun bt457 => ((tollref07_SameAsk.f k bt457.1 bt457.2.1 bt457.2.2.1 bt457.2.2.2.1 bt457.2.2.2.2.1 x451000 x451001 x451002 x451003 x451004).bind fun t469 => (if t469 = true then (if bt457.2.2.2.2.2.2 = 0 then ((tolllaw18_awake.f k).bind fun t470 => (some t470)) else (none)) else (none)))) else (if x11 = 5 then ((tolllaw18_awake.f k).bind fun t471 => (some t471)) else (none)))
end
def tolllaw18_HeadMethods.f (k : Nat) (a0_0 : ByteArray) (a0_1 : ByteArray) (a0_2 : ByteArray) (l0_3 : List (S35)) (l0_4 : List (S35)) (a1 : ByteArray) (a2 : ByteArray) : Option (Bool) := (tolllaw06_Asked.f k a0_0 a0_1 a0_2 l0_3 l0_4).bind fun bt437 => ((tolllaw01_Few.f a1).bind fun t446 => ((tolllaw01_Few.f a2).bind fun t447 => ((head_Lay.f k bt437.1 bt437.2.1 bt437.2.2.1 bt437.2.2.2.1 bt437.2.2.2.2).bind fun bt448 => (tolllaw18_HeadMethods.j0 k t446 t447 bt448.2 bt437.1 bt437.2.1 bt437.2.2.1 bt437.2.2.2.1 bt437.2.2.2.2))))
theorem tolllaw18_HeadMethods.mono_l : ∀ k, (∀ y0 y1 y2 y3 y4 y5 y6 y7, LeO (tolllaw18_HeadMethods.j0 k y0 y1 y2 y3 y4 y5 y6 y7) (tolllaw18_HeadMethods.j0 (k + 1) y0 y1 y2 y3 y4 y5 y6 y7)) ∧ (∀ y0 y1 y2 y3 y4 y5 y6 y7, LeO (tolllaw18_HeadMethods.j1 k y0 y1 y2 y3 y4 y5 y6 y7) (tolllaw18_HeadMethods.j1 (k + 1) y0 y1 y2 y3 y4 y5 y6 y7))
 | 0 => ⟨fun _ _ _ _ _ _ _ _ r h => by simp [tolllaw18_HeadMethods.j0] at h, fun _ _ _ _ _ _ _ _ r h => by simp [tolllaw18_HeadMethods.j1] at h⟩
 | k + 1 => by
  obtain ⟨ih0, ih1⟩ := tolllaw18_HeadMethods.mono_l k
  refine ⟨?_, ?_⟩
  ·intro y0 y1 y2 y3 y4 y5 y6 y7
   unfold tolllaw18_HeadMethods.j0
   repeat' first
   | (with_reducible exact ih0 _ _ _ _ _ _ _ _)
   | (with_reducible exact ih1 _ _ _ _ _ _ _ _)
   | (with_reducible exact head_Lay.mono _ _ _ _ _ _)
   | (with_reducible exact head_Parse.mono _ _)
   | (with_reducible exact tolllaw06_Asked.mono _ _ _ _ _ _)
   | (with_reducible exact tolllaw18_awake.mono _)
   | (with_reducible exact tollref03_Is.mono _ _)
   | (with_reducible exact tollref06_Method.mono _ _)
   | (with_reducible exact tollref07_SameAsk.mono _ _ _ _ _ _ _ _ _ _ _)
   | (with_reducible exact LeO.refl _)
   | (with_reducible exact LeO.none _)
   | (with_reducible refine LeO.ite ?_ ?_)
   | (with_reducible refine LeO.bind ?_ (fun _ => ?_))
   | exact ih0 _ _ _ _ _ _ _ _
   | exact ih1 _ _ _ _ _ _ _ _
   | exact head_Lay.mono _ _ _ _ _ _
   | exact head_Parse.mono _ _
   | exact tolllaw06_Asked.mono _ _ _ _ _ _
   | exact tolllaw18_awake.mono _
   | exact tollref03_Is.mono _ _
   | exact tollref06_Method.mono _ _
   | exact tollref07_SameAsk.mono _ _ _ _ _ _ _ _ _ _ _
   | exact LeO.none _
   | refine LeO.ite ?_ ?_
   | refine LeO.bind ?_ (fun _ => ?_)
  ·intro y0 y1 y2 y3 y4 y5 y6 y7
   unfold tolllaw18_HeadMethods.j1
   repeat' first
   | (with_reducible exact ih0 _ _ _ _ _ _ _ _)
   | (with_reducible exact ih1 _ _ _ _ _ _ _ _)
   | (with_reducible exact head_Lay.mono _ _ _ _ _ _)
   | (with_reducible exact head_Parse.mono _ _)
   | (with_reducible exact tolllaw06_Asked.mono _ _ _ _ _ _)
   | (with_reducible exact tolllaw18_awake.mono _)
   | (with_reducible exact tollref03_Is.mono _ _)
   | (with_reducible exact tollref06_Method.mono _ _)
   | (with_reducible exact tollref07_SameAsk.mono _ _ _ _ _ _ _ _ _ _ _)
   | (with_reducible exact LeO.refl _)
   | (with_reducible exact LeO.none _)
   | (with_reducible refine LeO.ite ?_ ?_)
   | (with_reducible refine LeO.bind ?_ (fun _ => ?_))
   | exact ih0 _ _ _ _ _ _ _ _
   | exact ih1 _ _ _ _ _ _ _ _
   | exact head_Lay.mono _ _ _ _ _ _
   | exact head_Parse.mono _ _
   | exact tolllaw06_Asked.mono _ _ _ _ _ _
   | exact tolllaw18_awake.mono _
   | exact tollref03_Is.mono _ _
   | exact tollref06_Method.mono _ _
   | exact tollref07_SameAsk.mono _ _ _ _ _ _ _ _ _ _ _
   | exact LeO.none _
   | refine LeO.ite ?_ ?_
   | refine LeO.bind ?_ (fun _ => ?_)
theorem tolllaw18_HeadMethods.mono : ∀ a0 a1 a2 a3 a4 a5 a6 k, LeO (tolllaw18_HeadMethods.f k a0 a1 a2 a3 a4 a5 a6) (tolllaw18_HeadMethods.f (k + 1) a0 a1 a2 a3 a4 a5 a6) := by
 intro a0 a1 a2 a3 a4 a5 a6 k
 obtain ⟨ih0, ih1⟩ := tolllaw18_HeadMethods.mono_l k
 unfold tolllaw18_HeadMethods.f
 repeat' first
   | (with_reducible exact ih0 _ _ _ _ _ _ _ _)
   | (with_reducible exact ih1 _ _ _ _ _ _ _ _)
   | (with_reducible exact head_Lay.mono _ _ _ _ _ _)
   | (with_reducible exact head_Parse.mono _ _)
   | (with_reducible exact tolllaw06_Asked.mono _ _ _ _ _ _)
   | (with_reducible exact tolllaw18_awake.mono _)
   | (with_reducible exact tollref03_Is.mono _ _)
   | (with_reducible exact tollref06_Method.mono _ _)
   | (with_reducible exact tollref07_SameAsk.mono _ _ _ _ _ _ _ _ _ _ _)
   | (with_reducible exact LeO.refl _)
   | (with_reducible exact LeO.none _)
   | (with_reducible refine LeO.ite ?_ ?_)
   | (with_reducible refine LeO.bind ?_ (fun _ => ?_))
   | exact ih0 _ _ _ _ _ _ _ _
   | exact ih1 _ _ _ _ _ _ _ _
   | exact head_Lay.mono _ _ _ _ _ _
   | exact head_Parse.mono _ _
   | exact tolllaw06_Asked.mono _ _ _ _ _ _
   | exact tolllaw18_awake.mono _
   | exact tollref03_Is.mono _ _
   | exact tollref06_Method.mono _ _
   | exact tollref07_SameAsk.mono _ _ _ _ _ _ _ _ _ _ _
   | exact LeO.none _
   | refine LeO.ite ?_ ?_
   | refine LeO.bind ?_ (fun _ => ?_)
set_option maxHeartbeats 6000000 in
set_option maxRecDepth 100000 in
theorem tolllaw18_HeadMethods.calls (k : Nat) (a0_0 : ByteArray) (a0_1 : ByteArray) (a0_2 : ByteArray) (A0_3 : Option Addr) (c0_3 : Nat) (l0_3 : List (S35)) (A0_4 : Option Addr) (c0_4 : Nat) (l0_4 : List (S35)) (a1 : ByteArray) (a2 : ByteArray) (r : Bool) (w : World) (hr0_3 : Kd.C k35 w A0_3 l0_3.length l0_3) (hc0_3 : l0_3.length ≤ c0_3) (hr0_4 : Kd.C k35 w A0_4 l0_4.length l0_4) (hc0_4 : l0_4.length ≤ c0_4) (hG : MaxL w) (h : tolllaw18_HeadMethods.f k a0_0 a0_1 a0_2 l0_3 l0_4 a1 a2 = some r) :
  Calls Tryd.prog 7 #[.agg #[.string a0_0, .string a0_1, .string a0_2, .slice A0_3 l0_3.length c0_3, .slice A0_4 l0_4.length c0_4], .string a1, .string a2] w fun e w' => e = .returned (.bool r) ∧ Below w.heap.size w w' := by
 have HGL := am_ hG
 clear hG
 have hu26 := Tryd.underlying26
 have HR0_3 := Aside0.mk hr0_3
 have HC0_3 := Aside0.mk hc0_3
 clear hr0_3 hc0_3
 have HR0_4 := Aside0.mk hr0_4
 have HC0_4 := Aside0.mk hc0_4
 clear hr0_4 hc0_4
 have HB := am_ (Below.refl w.heap.size w)
 have H : ((tolllaw06_Asked.f k a0_0 a0_1 a0_2 l0_3 l0_4).bind fun bt437 => ((tolllaw01_Few.f a1).bind fun t446 => ((tolllaw01_Few.f a2).bind fun t447 => ((head_Lay.f k bt437.1 bt437.2.1 bt437.2.2.1 bt437.2.2.2.1 bt437.2.2.2.2).bind fun bt448 => (tolllaw18_HeadMethods.j0 k t446 t447 bt448.2 bt437.1 bt437.2.1 bt437.2.2.1 bt437.2.2.2.1 bt437.2.2.2.2))))) = some r := h
 clear h
 replace H := Option.bind_eq_some_iff.mp H
 obtain ⟨⟨t437, t438, t439, t440, t443⟩, A40, H⟩ := H
 replace H : ((tolllaw01_Few.f a1).bind fun t446 => ((tolllaw01_Few.f a2).bind fun t447 => ((head_Lay.f k t437 t438 t439 t440 t443).bind fun bt448 => (tolllaw18_HeadMethods.j0 k t446 t447 bt448.2 t437 t438 t439 t440 t443)))) = some r := H
 have A4 := Aside0.mk A40
 clear A40
 replace H := Option.bind_eq_some_iff.mp H
 obtain ⟨t446, A50, H⟩ := H
 replace H : ((tolllaw01_Few.f a2).bind fun t447 => ((head_Lay.f k t437 t438 t439 t440 t443).bind fun bt448 => (tolllaw18_HeadMethods.j0 k t446 t447 bt448.2 t437 t438 t439 t440 t443))) = some r := H
 have A5 := Aside0.mk A50
 clear A50
 replace H := Option.bind_eq_some_iff.mp H
 obtain ⟨t447, A60, H⟩ := H
 replace H : ((head_Lay.f k t437 t438 t439 t440 t443).bind fun bt448 => (tolllaw18_HeadMethods.j0 k t446 t447 bt448.2 t437 t438 t439 t440 t443)) = some r := H
 have A6 := Aside0.mk A60
 clear A60
 have HC7 := Aside0.mk H
 clear H
 go_enter Tryd.func7, Tryd.ntmps7
 go_upto_region 2 with (first | ((with_reducible refine gate_dst (N := 3) rfl ?_); refine box_event ?hg (N := 3) ?hd (cs := #[.string a0_0, .string a0_1, .string a0_2, .slice A0_3 l0_3.length c0_3, .slice A0_4 l0_4.length c0_4]) (t := 26) ?hr ?_; (case hd => rfl); (case hg => rfl); (case hr => first | (go_simp; done) | (go_simp; rfl)); intro gb436 hg w8 hbox hb; have n0_ := am_ (below_step (bel_ HB.out) hb); have n1_ := am_ (hbox); have n2_ := am_ ((by rw [hg]; exact (below_size (bel_ HB.out)) : w.heap.size ≤ gb436)); have n3_ := am_ ((by rw [hg]; exact (below_size (bel_ HB.out)) : w.heap.size ≤ gb436)); clear HB; have HB := n0_; have BK436 := n1_; have GW436 := n2_; have GE436 := n3_; clear n0_ n1_ n2_ n3_ hb hbox hg; have hcz9_0 : w8.cell? ⟨gb436, 0, none⟩ = some (.string a0_0) := (blk_cell BK436.out 0).trans rfl; have hcz9_1 : w8.cell? ⟨gb436, 1, none⟩ = some (.string a0_1) := (blk_cell BK436.out 1).trans rfl; have hcz9_2 : w8.cell? ⟨gb436, 2, none⟩ = some (.string a0_2) := (blk_cell BK436.out 2).trans rfl; have hcz9_3 : w8.cell? ⟨gb436, 3, none⟩ = some (.slice A0_3 l0_3.length c0_3) := (blk_cell BK436.out 3).trans rfl; have hcz9_4 : w8.cell? ⟨gb436, 4, none⟩ = some (.slice A0_4 l0_4.length c0_4) := (blk_cell BK436.out 4).trans rfl; have hfz9_0 := blk_frozen BK436.out 0; have hfz9_1 := blk_frozen BK436.out 1; have hfz9_2 := blk_frozen BK436.out 2; have hfz9_3 := blk_frozen BK436.out 3; have hfz9_4 := blk_frozen BK436.out 4) | ((with_reducible refine gate_callee (f := 13) rfl ?_); refine goesL_ (some 16) rfl rfl Tryd.func13 kr_ rfl #[.agg #[.string a0_0, .string a0_1, .string a0_2, .slice A0_3 l0_3.length c0_3, .slice A0_4 l0_4.length c0_4]] rfl rl_ ?_; (with_reducible refine (tolllaw06_Asked.calls k a0_0 a0_1 a0_2 _ _ l0_3 _ _ l0_4 t437 t438 t439 t440 t443 _ ?side1 ?side2 ?side3 ?side4 A4.out).mono ?_); (case side1 => exact C_ (Kd.C_below HR0_3.out HB.out)); (case side2 => exact HC0_3.out); (case side3 => exact C_ (Kd.C_below HR0_4.out HB.out)); (case side4 => exact HC0_4.out); rintro e w10 ⟨v441, v444, rfl, ho0, ho1, hb⟩; refine ⟨_, rfl, ?_⟩; have n0_ := am_ (Kd.R_lower ho0 (below_size (bel_ HB.out))); have n1_ := am_ (Kd.R_lower ho1 (below_size (bel_ HB.out))); have n2_ := am_ (blk_below (g := gb436) (o := .cells #[.string a0_0, .string a0_1, .string a0_2, .slice A0_3 l0_3.length c0_3, .slice A0_4 l0_4.length c0_4] 26 (0, 0)) (blk_ BK436.out) hb); have n3_ := am_ (below_step (bel_ HB.out) hb); clear BK436 HB; have HO442 := n0_; have HO445 := n1_; have BK436 := n2_; have HB := n3_; clear n0_ n1_ n2_ n3_; (try clear hb); (try clear hb2); (try clear hk); (try clear hi); (try clear ho0); (try clear ho1)) | ((with_reducible refine gate_callee (f := 14) rfl ?_); refine goesL_ (some 18) rfl rfl Tryd.func14 kr_ rfl #[.string a1] rfl rl_ ?_; (with_reducible refine (tolllaw01_Few.calls a1 t446 _ A5.out).mono ?_); rintro e w' ⟨rfl, ⟨nd, rfl⟩⟩; refine ⟨_, rfl, ?_⟩; (try (rw [drewN_self w10]; generalize hq_ : World.drewN w10 _ = w10; have n0_ : Aside0 (Kd.R k35 35 w10 w.heap.size (fun k_ => some k_ ≠ (v444 : Value).ownBlock) v441 t440) := ⟨by rw [← hq_]; exact (R_ HO442.out)⟩; have n1_ : Aside0 (Kd.R k35 35 w10 w.heap.size (fun k_ => some k_ ≠ (v441 : Value).ownBlock) v444 t443) := ⟨by rw [← hq_]; exact (R_ HO445.out)⟩; have n2_ : Aside0 (w10.heap[gb436]? = some (.cells #[.string a0_0, .string a0_1, .string a0_2, .slice A0_3 l0_3.length c0_3, .slice A0_4 l0_4.length c0_4] 26 (0, 0))) := ⟨by rw [← hq_]; exact (blk_ BK436.out)⟩; have n3_ : Aside0 (Below w.heap.size w w10) := ⟨by rw [← hq_]; exact (bel_ HB.out)⟩; clear HO442 HO445 BK436 HB hq_; have HO442 := n0_; have HO445 := n1_; have BK436 := n2_; have HB := n3_; clear n0_ n1_ n2_ n3_))) | ((with_reducible refine gate_callee (f := 14) rfl ?_); refine goesL_ (some 20) rfl rfl Tryd.func14 kr_ rfl #[.string a2] rfl rl_ ?_; (with_reducible refine (tolllaw01_Few.calls a2 t447 _ A6.out).mono ?_); rintro e w' ⟨rfl, ⟨nd, rfl⟩⟩; refine ⟨_, rfl, ?_⟩; (try (rw [drewN_self w10]; generalize hq_ : World.drewN w10 _ = w10; have n0_ : Aside0 (Kd.R k35 35 w10 w.heap.size (fun k_ => some k_ ≠ (v444 : Value).ownBlock) v441 t440) := ⟨by rw [← hq_]; exact (R_ HO442.out)⟩; have n1_ : Aside0 (Kd.R k35 35 w10 w.heap.size (fun k_ => some k_ ≠ (v441 : Value).ownBlock) v444 t443) := ⟨by rw [← hq_]; exact (R_ HO445.out)⟩; have n2_ : Aside0 (w10.heap[gb436]? = some (.cells #[.string a0_0, .string a0_1, .string a0_2, .slice A0_3 l0_3.length c0_3, .slice A0_4 l0_4.length c0_4] 26 (0, 0))) := ⟨by rw [← hq_]; exact (blk_ BK436.out)⟩; have n3_ : Aside0 (Below w.heap.size w w10) := ⟨by rw [← hq_]; exact (bel_ HB.out)⟩; clear HO442 HO445 BK436 HB hq_; have HO442 := n0_; have HO445 := n1_; have BK436 := n2_; have HB := n3_; clear n0_ n1_ n2_ n3_)); have hcz11_0 : w10.cell? ⟨gb436, 0, none⟩ = some (.string a0_0) := (blk_cell BK436.out 0).trans rfl; have hcz11_1 : w10.cell? ⟨gb436, 1, none⟩ = some (.string a0_1) := (blk_cell BK436.out 1).trans rfl; have hcz11_2 : w10.cell? ⟨gb436, 2, none⟩ = some (.string a0_2) := (blk_cell BK436.out 2).trans rfl; have hcz11_3 : w10.cell? ⟨gb436, 3, none⟩ = some (.slice A0_3 l0_3.length c0_3) := (blk_cell BK436.out 3).trans rfl; have hcz11_4 : w10.cell? ⟨gb436, 4, none⟩ = some (.slice A0_4 l0_4.length c0_4) := (blk_cell BK436.out 4).trans rfl; have hfz11_0 := blk_frozen BK436.out 0; have hfz11_1 := blk_frozen BK436.out 1; have hfz11_2 := blk_frozen BK436.out 2; have hfz11_3 := blk_frozen BK436.out 3; have hfz11_4 := blk_frozen BK436.out 4; obtain ⟨Ao12, co12, eo12⟩ := Kd.R_slice HO442.out; subst eo12; obtain ⟨Ao13, co13, eo13⟩ := Kd.R_slice HO445.out; subst eo13))
 (try simp only [Act.put, List.setIfInBounds_toArray, List.set_cons_zero, List.set_cons_succ])
 go_cut [8] (fun v8 wc => ∃ (kq : Nat) (x8_6 : Int), v8 = .int .i64 x8_6 ∧ Aside0 (tolllaw18_HeadMethods.j0 kq t446 t447 x8_6 t437 t438 t439 t440 t443 = some r) ∧ Aside0 (kq ≤ k) ∧ Aside0 (Kd.R k35 35 wc w.heap.size (fun k_ => some k_ ≠ ((.slice Ao13 t443.length co13) : Value).ownBlock) (.slice Ao12 t440.length co12) t440) ∧ Aside0 (Kd.R k35 35 wc w.heap.size (fun k_ => some k_ ≠ ((.slice Ao12 t440.length co12) : Value).ownBlock) (.slice Ao13 t443.length co13) t443) ∧ Aside0 (wc.heap[gb436]? = some (.cells #[.string t437, .string t438, .string t439, (.slice Ao12 t440.length co12), (.slice Ao13 t443.length co13)] 26 (0, 0))) ∧ Aside0 (Below w.heap.size w wc))
 case first =>
  have H := HC7.out
  clear HC7
  replace H := Option.bind_eq_some_iff.mp H
  obtain ⟨⟨t448, t449⟩, A140, H⟩ := H
  replace H : (tolllaw18_HeadMethods.j0 k t446 t447 t449 t437 t438 t439 t440 t443) = some r := H
  have A14 := Aside0.mk A140
  clear A140
  have H' := Aside0.mk H
  clear H
  have hcz15_0 : w10.cell? ⟨gb436, 0, none⟩ = some (.string a0_0) := (blk_cell BK436.out 0).trans rfl
  have hcz15_1 : w10.cell? ⟨gb436, 1, none⟩ = some (.string a0_1) := (blk_cell BK436.out 1).trans rfl
  have hcz15_2 : w10.cell? ⟨gb436, 2, none⟩ = some (.string a0_2) := (blk_cell BK436.out 2).trans rfl
  have hcz15_3 : w10.cell? ⟨gb436, 3, none⟩ = some (.slice A0_3 l0_3.length c0_3) := (blk_cell BK436.out 3).trans rfl
  have hcz15_4 : w10.cell? ⟨gb436, 4, none⟩ = some (.slice A0_4 l0_4.length c0_4) := (blk_cell BK436.out 4).trans rfl
  have hfz15_0 := blk_frozen BK436.out 0
  have hfz15_1 := blk_frozen BK436.out 1
  have hfz15_2 := blk_frozen BK436.out 2
  have hfz15_3 := blk_frozen BK436.out 3
  have hfz15_4 := blk_frozen BK436.out 4
  go_wp2_with (first | ((with_reducible refine gate_callee (f := 12) rfl ?_); refine goesL_ (some 23) rfl rfl Tryd.func12 kr_ rfl #[.agg #[.string t437, .string t438, .string t439, .slice Ao12 t440.length co12, .slice Ao13 t443.length co13]] rfl rl_ ?_; (with_reducible refine (head_Lay.calls k t437 t438 t439 _ _ t440 _ _ t443 t448 t449 _ ?side1 ?side2 ?side3 ?side4 A14.out).mono ?_); (case side1 => refine (Kd.R_reads' (e := 35) (base := w.heap.size) (ok := fun k_ => some k_ ≠ (.slice Ao13 t443.length co13 : Value).ownBlock) (n := t440.length) (c := co12) ?_).2.2; exact (by (with_reducible repeat (first | apply Kd.R_alloc | apply Kd.R_drewN | apply Kd.R_drew)); exact (Kd.R_mono (Kd.R_far (p := ⟨gb436, 4, none⟩) (Kd.R_far (p := ⟨gb436, 3, none⟩) (Kd.R_far (p := ⟨gb436, 2, none⟩) (Kd.R_far (p := ⟨gb436, 1, none⟩) (Kd.R_far (p := ⟨gb436, 0, none⟩) (Kd.R_types HO442.out BK436.out (by decide)) (fun _ hk => hk.2) (.string t437)) (fun _ hk => hk.2) (.string t438)) (fun _ hk => hk.2) (.string t439)) (fun _ hk => hk.2) (.slice Ao12 t440.length co12)) (fun _ hk => hk.2) (.slice Ao13 t443.length co13)) (fun _ h_ => h_.1)))); (case side2 => exact (Kd.R_reads' HO442.out).2.1); (case side3 => refine (Kd.R_reads' (e := 35) (base := w.heap.size) (ok := fun k_ => some k_ ≠ (.slice Ao12 t440.length co12 : Value).ownBlock) (n := t443.length) (c := co13) ?_).2.2; exact (by (with_reducible repeat (first | apply Kd.R_alloc | apply Kd.R_drewN | apply Kd.R_drew)); exact (Kd.R_mono (Kd.R_far (p := ⟨gb436, 4, none⟩) (Kd.R_far (p := ⟨gb436, 3, none⟩) (Kd.R_far (p := ⟨gb436, 2, none⟩) (Kd.R_far (p := ⟨gb436, 1, none⟩) (Kd.R_far (p := ⟨gb436, 0, none⟩) (Kd.R_types HO445.out BK436.out (by decide)) (fun _ hk => hk.2) (.string t437)) (fun _ hk => hk.2) (.string t438)) (fun _ hk => hk.2) (.string t439)) (fun _ hk => hk.2) (.slice Ao12 t440.length co12)) (fun _ hk => hk.2) (.slice Ao13 t443.length co13)) (fun _ h_ => h_.1)))); (case side4 => exact (Kd.R_reads' HO445.out).2.1); rintro e w16 ⟨rfl, hb⟩; refine ⟨_, rfl, ?_⟩; have n0_ := am_ (Kd.R_below (by (with_reducible repeat (first | apply Kd.R_alloc | apply Kd.R_drewN | apply Kd.R_drew)); exact (Kd.R_mono (Kd.R_far (p := ⟨gb436, 4, none⟩) (Kd.R_far (p := ⟨gb436, 3, none⟩) (Kd.R_far (p := ⟨gb436, 2, none⟩) (Kd.R_far (p := ⟨gb436, 1, none⟩) (Kd.R_far (p := ⟨gb436, 0, none⟩) (Kd.R_types HO442.out BK436.out (by decide)) (fun _ hk => hk.2) (.string t437)) (fun _ hk => hk.2) (.string t438)) (fun _ hk => hk.2) (.string t439)) (fun _ hk => hk.2) (.slice Ao12 t440.length co12)) (fun _ hk => hk.2) (.slice Ao13 t443.length co13)) (fun _ h_ => h_.1))) hb); have n1_ := am_ (Kd.R_below (by (with_reducible repeat (first | apply Kd.R_alloc | apply Kd.R_drewN | apply Kd.R_drew)); exact (Kd.R_mono (Kd.R_far (p := ⟨gb436, 4, none⟩) (Kd.R_far (p := ⟨gb436, 3, none⟩) (Kd.R_far (p := ⟨gb436, 2, none⟩) (Kd.R_far (p := ⟨gb436, 1, none⟩) (Kd.R_far (p := ⟨gb436, 0, none⟩) (Kd.R_types HO445.out BK436.out (by decide)) (fun _ hk => hk.2) (.string t437)) (fun _ hk => hk.2) (.string t438)) (fun _ hk => hk.2) (.string t439)) (fun _ hk => hk.2) (.slice Ao12 t440.length co12)) (fun _ hk => hk.2) (.slice Ao13 t443.length co13)) (fun _ h_ => h_.1))) hb); have n2_ := am_ (blk_below (g := gb436) (o := .cells #[.string t437, .string t438, .string t439, .slice Ao12 t440.length co12, .slice Ao13 t443.length co13] 26 (0, 0)) (by (with_reducible repeat (first | refine blk_drewN ?_ _ | refine blk_drew ?_ | refine blk_alloc ?_ _)); refine blk_put (cs := #[.string t437, .string t438, .string t439, .slice Ao12 t440.length co12, .slice A0_4 l0_4.length c0_4]) ?_ 4 _ rfl; (with_reducible repeat (first | refine blk_drewN ?_ _ | refine blk_drew ?_ | refine blk_alloc ?_ _)); refine blk_put (cs := #[.string t437, .string t438, .string t439, .slice A0_3 l0_3.length c0_3, .slice A0_4 l0_4.length c0_4]) ?_ 3 _ rfl; (with_reducible repeat (first | refine blk_drewN ?_ _ | refine blk_drew ?_ | refine blk_alloc ?_ _)); refine blk_put (cs := #[.string t437, .string t438, .string a0_2, .slice A0_3 l0_3.length c0_3, .slice A0_4 l0_4.length c0_4]) ?_ 2 _ rfl; (with_reducible repeat (first | refine blk_drewN ?_ _ | refine blk_drew ?_ | refine blk_alloc ?_ _)); refine blk_put (cs := #[.string t437, .string a0_1, .string a0_2, .slice A0_3 l0_3.length c0_3, .slice A0_4 l0_4.length c0_4]) ?_ 1 _ rfl; (with_reducible repeat (first | refine blk_drewN ?_ _ | refine blk_drew ?_ | refine blk_alloc ?_ _)); refine blk_put (cs := #[.string a0_0, .string a0_1, .string a0_2, .slice A0_3 l0_3.length c0_3, .slice A0_4 l0_4.length c0_4]) ?_ 0 _ rfl; (with_reducible repeat (first | refine blk_drewN ?_ _ | refine blk_drew ?_ | refine blk_alloc ?_ _)); exact BK436.out) hb); have n3_ := am_ (below_step (bel_ HB.out) hb); clear HO442 HO445 BK436 HB; have HO442 := n0_; have HO445 := n1_; have BK436 := n2_; have HB := n3_; clear n0_ n1_ n2_ n3_; (try clear hb); (try clear hb2); (try clear hk); (try clear hi)))
  go_meet
  case rel => exact ⟨_, (t449), sd_, H', ⟨by first | omega | exact Nat.le_refl _⟩, ⟨by (with_reducible repeat (first | apply Kd.R_alloc | apply Kd.R_drewN | apply Kd.R_drew)); exact HO442.out⟩, ⟨by (with_reducible repeat (first | apply Kd.R_alloc | apply Kd.R_drewN | apply Kd.R_drew)); exact HO445.out⟩, ⟨by (with_reducible repeat (first | refine blk_drewN ?_ _ | refine blk_drew ?_ | refine blk_alloc ?_ _)); exact BK436.out⟩, ⟨bel_ HB.out⟩⟩
 case rest =>
  clear HC7
  try clear c1
  try clear p2
  try clear c7
  try clear c12
  try clear c13
  try clear c14
  try clear hcz11_0
  try clear hcz11_1
  try clear hcz11_2
  try clear hcz11_3
  try clear hcz11_4
  try clear hcz15_0
  try clear hcz15_1
  try clear hcz15_2
  try clear hcz15_3
  try clear hcz15_4
  try clear hcz9_0
  try clear hcz9_1
  try clear hcz9_2
  try clear hcz9_3
  try clear hcz9_4
  try clear hfz11_0
  try clear hfz11_1
  try clear hfz11_2
  try clear hfz11_3
  try clear hfz11_4
  try clear hfz15_0
  try clear hfz15_1
  try clear hfz15_2
  try clear hfz15_3
  try clear hfz15_4
  try clear hfz9_0
  try clear hfz9_1
  try clear hfz9_2
  try clear hfz9_3
  try clear hfz9_4
  obtain ⟨kq, x8_6, rfl, HA, HJ6, HO_437003, HO_437004, BK436, HB⟩ := hcut
  cases kq with
  | zero => exact absurd HA.out (by simp [tolllaw18_HeadMethods.j0])
  | succ kj6 =>
   have H := HA.out
   clear HA
   simp only [tolllaw18_HeadMethods.j0] at H
   replace H := Option.bind_eq_some_iff.mp H
   obtain ⟨⟨t451, t452⟩, A170, H⟩ := H
   replace H : (if x8_6 = 0 then ((tollref06_Method.f kj6 t446).bind fun t454 => (if t454 = true then ((tollref03_Is.f kj6 t447).bind fun t455 => (tolllaw18_HeadMethods.j1 kj6 t451 t452 (!t455) t446 t438 t447 t440 t443)) else (tolllaw18_HeadMethods.j1 kj6 t451 t452 true t446 t438 t447 t440 t443))) else ((tolllaw18_awake.f kj6).bind fun t453 => (some t453))) = some r := H
   have A17 := Aside0.mk A170
   clear A170
   by_cases c18 : x8_6 = 0
   ·rw [if_pos c18] at H
    have c18b0 : (x8_6 == 0) = true := beq_iff_eq.mpr c18
    have c18b1 : (x8_6 != 0) = false := bne_eq_false_iff_eq.mpr c18
    clear c18
    have HC19 := Aside0.mk H
    clear H
    have hcz20_0 : wc.cell? ⟨gb436, 0, none⟩ = some (.string t437) := (blk_cell BK436.out 0).trans rfl
    have hcz20_1 : wc.cell? ⟨gb436, 1, none⟩ = some (.string t438) := (blk_cell BK436.out 1).trans rfl
    have hcz20_2 : wc.cell? ⟨gb436, 2, none⟩ = some (.string t439) := (blk_cell BK436.out 2).trans rfl
    have hcz20_3 : wc.cell? ⟨gb436, 3, none⟩ = some (.slice Ao12 t440.length co12) := (blk_cell BK436.out 3).trans rfl
    have hcz20_4 : wc.cell? ⟨gb436, 4, none⟩ = some (.slice Ao13 t443.length co13) := (blk_cell BK436.out 4).trans rfl
    have hfz20_0 := blk_frozen BK436.out 0
    have hfz20_1 := blk_frozen BK436.out 1
    have hfz20_2 := blk_frozen BK436.out 2
    have hfz20_3 := blk_frozen BK436.out 3
    have hfz20_4 := blk_frozen BK436.out 4
    go_upto_region 4 with (first | ((with_reducible refine gate_dst (N := 9) rfl ?_); refine box_event ?hg (N := 9) ?hd (cs := #[.string (⟨#[]⟩ : ByteArray), .string (⟨#[]⟩ : ByteArray), .string (⟨#[]⟩ : ByteArray), .slice none 0 0, .slice none 0 0]) (t := 26) ?hr ?_; (case hd => rfl); (case hg => rfl); (case hr => first | (go_simp; done) | (go_simp; rfl)); intro gb450 hg w21 hbox hb; have n0_ := am_ (Kd.R_below (R_ HO_437003.out) hb); have n1_ := am_ (Kd.R_below (R_ HO_437004.out) hb); have n2_ := am_ (blk_below (g := gb436) (o := .cells #[.string t437, .string t438, .string t439, .slice Ao12 t440.length co12, .slice Ao13 t443.length co13] 26 (0, 0)) (blk_ BK436.out) hb); have n3_ := am_ (below_step (bel_ HB.out) hb); have n4_ := am_ (hbox); have n5_ := am_ ((by rw [hg]; exact (below_size (bel_ HB.out)) : w.heap.size ≤ gb450)); have n6_ := am_ ((by rw [hg]; exact (below_size (bel_ HB.out)) : w.heap.size ≤ gb450)); have n7_ := am_ ((by rw [hg]; exact Nat.ne_of_lt (blk_lt (g := gb436) (o := .cells #[.string t437, .string t438, .string t439, .slice Ao12 t440.length co12, .slice Ao13 t443.length co13] 26 (0, 0)) (blk_ BK436.out)) : gb436 ≠ gb450)); have n8_ := am_ ((by rw [hg]; exact Nat.ne_of_gt (blk_lt (g := gb436) (o := .cells #[.string t437, .string t438, .string t439, .slice Ao12 t440.length co12, .slice Ao13 t443.length co13] 26 (0, 0)) (blk_ BK436.out)) : gb450 ≠ gb436)); clear HO_437003 HO_437004 BK436 HB; have HO_437003 := n0_; have HO_437004 := n1_; have BK436 := n2_; have HB := n3_; have BK450 := n4_; have GW450 := n5_; have GE450 := n6_; have NB436_450 := n7_; have NB450_436 := n8_; clear n0_ n1_ n2_ n3_ n4_ n5_ n6_ n7_ n8_ hb hbox hg; have hnb22 := NB450_436.out; have hnc22 := NB436_450.out; have hcz23_0 : w21.cell? ⟨gb450, 0, none⟩ = some (.string (⟨#[]⟩ : ByteArray)) := (blk_cell BK450.out 0).trans rfl; have hcz23_1 : w21.cell? ⟨gb450, 1, none⟩ = some (.string (⟨#[]⟩ : ByteArray)) := (blk_cell BK450.out 1).trans rfl; have hcz23_2 : w21.cell? ⟨gb450, 2, none⟩ = some (.string (⟨#[]⟩ : ByteArray)) := (blk_cell BK450.out 2).trans rfl; have hcz23_3 : w21.cell? ⟨gb450, 3, none⟩ = some (.slice none 0 0) := (blk_cell BK450.out 3).trans rfl; have hcz23_4 : w21.cell? ⟨gb450, 4, none⟩ = some (.slice none 0 0) := (blk_cell BK450.out 4).trans rfl; have hfz23_0 := blk_frozen BK450.out 0; have hfz23_1 := blk_frozen BK450.out 1; have hfz23_2 := blk_frozen BK450.out 2; have hfz23_3 := blk_frozen BK450.out 3; have hfz23_4 := blk_frozen BK450.out 4))
    have n0_ := am_ (Kd.R_mono (Kd.R_far (p := ⟨gb450, 4, none⟩) (Kd.R_far (p := ⟨gb450, 3, none⟩) (Kd.R_far (p := ⟨gb450, 2, none⟩) (Kd.R_far (p := ⟨gb450, 1, none⟩) (Kd.R_far (p := ⟨gb450, 0, none⟩) (Kd.R_types HO_437003.out BK450.out (by decide)) (fun _ hk => hk.2) (.string t437)) (fun _ hk => hk.2) (.string t438)) (fun _ hk => hk.2) (.string t439)) (fun _ hk => hk.2) (.slice Ao12 t440.length co12)) (fun _ hk => hk.2) (.slice Ao13 t443.length co13)) (fun _ h_ => h_.1))
    have n1_ := am_ (Kd.R_mono (Kd.R_far (p := ⟨gb450, 4, none⟩) (Kd.R_far (p := ⟨gb450, 3, none⟩) (Kd.R_far (p := ⟨gb450, 2, none⟩) (Kd.R_far (p := ⟨gb450, 1, none⟩) (Kd.R_far (p := ⟨gb450, 0, none⟩) (Kd.R_types HO_437004.out BK450.out (by decide)) (fun _ hk => hk.2) (.string t437)) (fun _ hk => hk.2) (.string t438)) (fun _ hk => hk.2) (.string t439)) (fun _ hk => hk.2) (.slice Ao12 t440.length co12)) (fun _ hk => hk.2) (.slice Ao13 t443.length co13)) (fun _ h_ => h_.1))
    have n2_ := am_ (blk_far (p := ⟨gb450, 4, none⟩) (blk_far (p := ⟨gb450, 3, none⟩) (blk_far (p := ⟨gb450, 2, none⟩) (blk_far (p := ⟨gb450, 1, none⟩) (blk_far (p := ⟨gb450, 0, none⟩) BK436.out NB436_450.out (.string t437)) NB436_450.out (.string t438)) NB436_450.out (.string t439)) NB436_450.out (.slice Ao12 t440.length co12)) NB436_450.out (.slice Ao13 t443.length co13))
    have n3_ := am_ (blk_put (cs' := #[.string t437, .string t438, .string t439, .slice Ao12 t440.length co12, .slice Ao13 t443.length co13]) (blk_put (cs' := #[.string t437, .string t438, .string t439, .slice Ao12 t440.length co12, .slice none 0 0]) (blk_put (cs' := #[.string t437, .string t438, .string t439, .slice none 0 0, .slice none 0 0]) (blk_put (cs' := #[.string t437, .string t438, .string (⟨#[]⟩ : ByteArray), .slice none 0 0, .slice none 0 0]) (blk_put (cs' := #[.string t437, .string (⟨#[]⟩ : ByteArray), .string (⟨#[]⟩ : ByteArray), .slice none 0 0, .slice none 0 0]) BK450.out 0 (.string t437) rfl) 1 (.string t438) rfl) 2 (.string t439) rfl) 3 (.slice Ao12 t440.length co12) rfl) 4 (.slice Ao13 t443.length co13) rfl)
    have n4_ := am_ (bel_ (W' := (((((w21.setCell ⟨gb450, 0, none⟩ (.string t437)).setCell ⟨gb450, 1, none⟩ (.string t438)).setCell ⟨gb450, 2, none⟩ (.string t439)).setCell ⟨gb450, 3, none⟩ (.slice Ao12 t440.length co12)).setCell ⟨gb450, 4, none⟩ (.slice Ao13 t443.length co13))) HB.out)
    clear HO_437003 HO_437004 BK436 BK450 HB
    clear hcz23_0 hcz23_1 hcz23_2 hcz23_3 hcz23_4 hfz23_0 hfz23_1 hfz23_2 hfz23_3 hfz23_4
    generalize (((((w21.setCell ⟨gb450, 0, none⟩ (.string t437)).setCell ⟨gb450, 1, none⟩ (.string t438)).setCell ⟨gb450, 2, none⟩ (.string t439)).setCell ⟨gb450, 3, none⟩ (.slice Ao12 t440.length co12)).setCell ⟨gb450, 4, none⟩ (.slice Ao13 t443.length co13)) = ww_ at n0_ n1_ n2_ n3_ n4_ ⊢
    have HO_437003 := n0_
    have HO_437004 := n1_
    have BK436 := n2_
    have BK450 := n3_
    have HB := n4_
    clear n0_ n1_ n2_ n3_ n4_
    have hczw_0 : ww_.cell? ⟨gb450, 0, none⟩ = some (.string t437) := (blk_cell BK450.out 0).trans rfl
    have hczw_1 : ww_.cell? ⟨gb450, 1, none⟩ = some (.string t438) := (blk_cell BK450.out 1).trans rfl
    have hczw_2 : ww_.cell? ⟨gb450, 2, none⟩ = some (.string t439) := (blk_cell BK450.out 2).trans rfl
    have hczw_3 : ww_.cell? ⟨gb450, 3, none⟩ = some (.slice Ao12 t440.length co12) := (blk_cell BK450.out 3).trans rfl
    have hczw_4 : ww_.cell? ⟨gb450, 4, none⟩ = some (.slice Ao13 t443.length co13) := (blk_cell BK450.out 4).trans rfl
    have hfzw_0 := blk_frozen BK450.out 0
    have hfzw_1 := blk_frozen BK450.out 1
    have hfzw_2 := blk_frozen BK450.out 2
    have hfzw_3 := blk_frozen BK450.out 3
    have hfzw_4 := blk_frozen BK450.out 4
    go_upto_region 8 with (first | ((with_reducible refine gate_callee (f := 12) rfl ?_); refine goesL_ (some 33) rfl rfl Tryd.func12 kr_ rfl #[.agg #[.string t446, .string t438, .string t447, .slice Ao12 t440.length co12, .slice Ao13 t443.length co13]] rfl rl_ ?_; (with_reducible refine (head_Lay.calls kj6 t446 t438 t447 _ _ t440 _ _ t443 t451 t452 _ ?side1 ?side2 ?side3 ?side4 A17.out).mono ?_); (case side1 => refine (Kd.R_reads' (e := 35) (base := w.heap.size) (ok := fun k_ => some k_ ≠ (.slice Ao13 t443.length co13 : Value).ownBlock) (n := t440.length) (c := co12) ?_).2.2; exact (by (with_reducible repeat (first | apply Kd.R_alloc | apply Kd.R_drewN | apply Kd.R_drew)); exact (Kd.R_mono (Kd.R_far (p := ⟨gb450, 2, none⟩) (Kd.R_far (p := ⟨gb450, 0, none⟩) (Kd.R_types HO_437003.out BK450.out (by decide)) (fun _ hk => hk.2) (.string t446)) (fun _ hk => hk.2) (.string t447)) (fun _ h_ => h_.1)))); (case side2 => exact (Kd.R_reads' HO_437003.out).2.1); (case side3 => refine (Kd.R_reads' (e := 35) (base := w.heap.size) (ok := fun k_ => some k_ ≠ (.slice Ao12 t440.length co12 : Value).ownBlock) (n := t443.length) (c := co13) ?_).2.2; exact (by (with_reducible repeat (first | apply Kd.R_alloc | apply Kd.R_drewN | apply Kd.R_drew)); exact (Kd.R_mono (Kd.R_far (p := ⟨gb450, 2, none⟩) (Kd.R_far (p := ⟨gb450, 0, none⟩) (Kd.R_types HO_437004.out BK450.out (by decide)) (fun _ hk => hk.2) (.string t446)) (fun _ hk => hk.2) (.string t447)) (fun _ h_ => h_.1)))); (case side4 => exact (Kd.R_reads' HO_437004.out).2.1); rintro e w24 ⟨rfl, hb⟩; refine ⟨_, rfl, ?_⟩; have n0_ := am_ (Kd.R_below (by (with_reducible repeat (first | apply Kd.R_alloc | apply Kd.R_drewN | apply Kd.R_drew)); exact (Kd.R_mono (Kd.R_far (p := ⟨gb450, 2, none⟩) (Kd.R_far (p := ⟨gb450, 0, none⟩) (Kd.R_types HO_437003.out BK450.out (by decide)) (fun _ hk => hk.2) (.string t446)) (fun _ hk => hk.2) (.string t447)) (fun _ h_ => h_.1))) hb); have n1_ := am_ (Kd.R_below (by (with_reducible repeat (first | apply Kd.R_alloc | apply Kd.R_drewN | apply Kd.R_drew)); exact (Kd.R_mono (Kd.R_far (p := ⟨gb450, 2, none⟩) (Kd.R_far (p := ⟨gb450, 0, none⟩) (Kd.R_types HO_437004.out BK450.out (by decide)) (fun _ hk => hk.2) (.string t446)) (fun _ hk => hk.2) (.string t447)) (fun _ h_ => h_.1))) hb); have n2_ := am_ (blk_below (g := gb436) (o := .cells #[.string t437, .string t438, .string t439, .slice Ao12 t440.length co12, .slice Ao13 t443.length co13] 26 (0, 0)) (by (with_reducible repeat (first | refine blk_drewN ?_ _ | refine blk_drew ?_ | refine blk_alloc ?_ _)); refine blk_far ?_ NB436_450.out _; (with_reducible repeat (first | refine blk_drewN ?_ _ | refine blk_drew ?_ | refine blk_alloc ?_ _)); refine blk_far ?_ NB436_450.out _; (with_reducible repeat (first | refine blk_drewN ?_ _ | refine blk_drew ?_ | refine blk_alloc ?_ _)); exact BK436.out) hb); have n3_ := am_ (blk_below (g := gb450) (o := .cells #[.string t446, .string t438, .string t447, .slice Ao12 t440.length co12, .slice Ao13 t443.length co13] 26 (0, 0)) (by (with_reducible repeat (first | refine blk_drewN ?_ _ | refine blk_drew ?_ | refine blk_alloc ?_ _)); refine blk_put (cs := #[.string t446, .string t438, .string t439, .slice Ao12 t440.length co12, .slice Ao13 t443.length co13]) ?_ 2 _ rfl; (with_reducible repeat (first | refine blk_drewN ?_ _ | refine blk_drew ?_ | refine blk_alloc ?_ _)); refine blk_put (cs := #[.string t437, .string t438, .string t439, .slice Ao12 t440.length co12, .slice Ao13 t443.length co13]) ?_ 0 _ rfl; (with_reducible repeat (first | refine blk_drewN ?_ _ | refine blk_drew ?_ | refine blk_alloc ?_ _)); exact BK450.out) hb); have n4_ := am_ (below_step (bel_ HB.out) hb); clear HO_437003 HO_437004 BK436 BK450 HB; have HO_437003 := n0_; have HO_437004 := n1_; have BK436 := n2_; have BK450 := n3_; have HB := n4_; clear n0_ n1_ n2_ n3_ n4_; (try clear hb); (try clear hb2); (try clear hk); (try clear hi)))
    (try simp only [Act.put, List.setIfInBounds_toArray, List.set_cons_zero, List.set_cons_succ])
    go_cut [46] (fun v46 wc => ∃ (kq : Nat) (x46_18 : Bool), v46 = .bool x46_18 ∧ Aside0 (tolllaw18_HeadMethods.j1 kq t451 t452 x46_18 t446 t438 t447 t440 t443 = some r) ∧ Aside0 (kq ≤ kj6) ∧ Aside0 (Kd.R k35 35 wc w.heap.size (fun k_ => some k_ ≠ ((.slice Ao13 t443.length co13) : Value).ownBlock ∧ some k_ ≠ ((.slice Ao13 t443.length co13) : Value).ownBlock) (.slice Ao12 t440.length co12) t440) ∧ Aside0 (Kd.R k35 35 wc w.heap.size (fun k_ => some k_ ≠ ((.slice Ao12 t440.length co12) : Value).ownBlock ∧ some k_ ≠ ((.slice Ao12 t440.length co12) : Value).ownBlock) (.slice Ao13 t443.length co13) t443) ∧ Aside0 (Kd.R k35 35 wc w.heap.size (fun k_ => some k_ ≠ ((.slice Ao13 t443.length co13) : Value).ownBlock ∧ some k_ ≠ ((.slice Ao13 t443.length co13) : Value).ownBlock) (.slice Ao12 t440.length co12) t440) ∧ Aside0 (Kd.R k35 35 wc w.heap.size (fun k_ => some k_ ≠ ((.slice Ao12 t440.length co12) : Value).ownBlock ∧ some k_ ≠ ((.slice Ao12 t440.length co12) : Value).ownBlock) (.slice Ao13 t443.length co13) t443) ∧ Aside0 (wc.heap[gb436]? = some (.cells #[.string t437, .string t438, .string t439, (.slice Ao12 t440.length co12), (.slice Ao13 t443.length co13)] 26 (0, 0))) ∧ Aside0 (wc.heap[gb450]? = some (.cells #[.string t446, .string t438, .string t447, (.slice Ao12 t440.length co12), (.slice Ao13 t443.length co13)] 26 (0, 0))) ∧ Aside0 (Below w.heap.size w wc))
    case first =>
     have H := HC19.out
     clear HC19
     replace H := Option.bind_eq_some_iff.mp H
     obtain ⟨t454, A250, H⟩ := H
     replace H : (if t454 = true then ((tollref03_Is.f kj6 t447).bind fun t455 => (tolllaw18_HeadMethods.j1 kj6 t451 t452 (!t455) t446 t438 t447 t440 t443)) else (tolllaw18_HeadMethods.j1 kj6 t451 t452 true t446 t438 t447 t440 t443)) = some r := H
     have A25 := Aside0.mk A250
     clear A250
     by_cases c26 : t454 = true
     ·subst c26
      have H1 : ((tollref03_Is.f kj6 t447).bind fun t455 => (tolllaw18_HeadMethods.j1 kj6 t451 t452 (!t455) t446 t438 t447 t440 t443)) = some r := by rw [if_pos rfl] at H; exact H
      clear H
      have H := H1
      clear H1
      replace H := Option.bind_eq_some_iff.mp H
      obtain ⟨t455, A270, H⟩ := H
      replace H : (tolllaw18_HeadMethods.j1 kj6 t451 t452 (!t455) t446 t438 t447 t440 t443) = some r := H
      have A27 := Aside0.mk A270
      clear A270
      have H' := Aside0.mk H
      clear H
      go_wp2_with (first | ((with_reducible refine gate_callee (f := 18) rfl ?_); refine goesL_ (some 40) rfl rfl Tryd.func18 kr_ rfl #[.string t446] rfl rl_ ?_; (with_reducible refine (tollref06_Method.calls kj6 t446 true _ A25.out).mono ?_); rintro e w' ⟨rfl, ⟨nd, rfl⟩⟩; refine ⟨_, rfl, ?_⟩) | (go_at_call 19; (with_reducible refine (tollref03_Is.calls kj6 t447 t455 _ A27.out).mono ?_); rintro e w' ⟨rfl, ⟨nd, rfl⟩⟩))
      go_meet
      case rel => exact ⟨_, (!t455), sd_, H', ⟨by have := HJ6.out; first | omega | exact Nat.le_refl _⟩, ⟨by (with_reducible repeat (first | apply Kd.R_alloc | apply Kd.R_drewN | apply Kd.R_drew)); exact Kd.R_mono HO_437003.out (fun _ hk => ⟨hk, hk⟩)⟩, ⟨by (with_reducible repeat (first | apply Kd.R_alloc | apply Kd.R_drewN | apply Kd.R_drew)); exact Kd.R_mono HO_437004.out (fun _ hk => ⟨hk, hk⟩)⟩, ⟨by (with_reducible repeat (first | apply Kd.R_alloc | apply Kd.R_drewN | apply Kd.R_drew)); exact Kd.R_mono HO_437003.out (fun _ hk => ⟨hk, hk⟩)⟩, ⟨by (with_reducible repeat (first | apply Kd.R_alloc | apply Kd.R_drewN | apply Kd.R_drew)); exact Kd.R_mono HO_437004.out (fun _ hk => ⟨hk, hk⟩)⟩, ⟨by (with_reducible repeat (first | refine blk_drewN ?_ _ | refine blk_drew ?_ | refine blk_alloc ?_ _)); exact BK436.out⟩, ⟨by (with_reducible repeat (first | refine blk_drewN ?_ _ | refine blk_drew ?_ | refine blk_alloc ?_ _)); exact BK450.out⟩, ⟨bel_ HB.out⟩⟩
     ·replace c26 := Bool.eq_false_iff.mpr c26
      subst c26
      have H1 : (tolllaw18_HeadMethods.j1 kj6 t451 t452 true t446 t438 t447 t440 t443) = some r := by rw [if_neg (show ¬ (false = true) by decide)] at H; exact H
      clear H
      have H := H1
      clear H1
      have H' := Aside0.mk H
      clear H
      go_wp2_with (first | ((with_reducible refine gate_callee (f := 18) rfl ?_); refine goesL_ (some 40) rfl rfl Tryd.func18 kr_ rfl #[.string t446] rfl rl_ ?_; (with_reducible refine (tollref06_Method.calls kj6 t446 false _ A25.out).mono ?_); rintro e w' ⟨rfl, ⟨nd, rfl⟩⟩; refine ⟨_, rfl, ?_⟩))
      go_meet
      case rel => exact ⟨_, (true), sd_, H', ⟨by have := HJ6.out; first | omega | exact Nat.le_refl _⟩, ⟨by (with_reducible repeat (first | apply Kd.R_alloc | apply Kd.R_drewN | apply Kd.R_drew)); exact Kd.R_mono HO_437003.out (fun _ hk => ⟨hk, hk⟩)⟩, ⟨by (with_reducible repeat (first | apply Kd.R_alloc | apply Kd.R_drewN | apply Kd.R_drew)); exact Kd.R_mono HO_437004.out (fun _ hk => ⟨hk, hk⟩)⟩, ⟨by (with_reducible repeat (first | apply Kd.R_alloc | apply Kd.R_drewN | apply Kd.R_drew)); exact Kd.R_mono HO_437003.out (fun _ hk => ⟨hk, hk⟩)⟩, ⟨by (with_reducible repeat (first | apply Kd.R_alloc | apply Kd.R_drewN | apply Kd.R_drew)); exact Kd.R_mono HO_437004.out (fun _ hk => ⟨hk, hk⟩)⟩, ⟨by (with_reducible repeat (first | refine blk_drewN ?_ _ | refine blk_drew ?_ | refine blk_alloc ?_ _)); exact BK436.out⟩, ⟨by (with_reducible repeat (first | refine blk_drewN ?_ _ | refine blk_drew ?_ | refine blk_alloc ?_ _)); exact BK450.out⟩, ⟨bel_ HB.out⟩⟩
    case rest =>
     clear HC19
     try clear c1
     try clear c2
     try clear p2
     try clear c7
     try clear c12
     try clear c13
     try clear c14
     try clear c18
     try clear c18b0
     try clear c18b1
     try clear c22
     try clear c26
     try clear hcz11_0
     try clear hcz11_1
     try clear hcz11_2
     try clear hcz11_3
     try clear hcz11_4
     try clear hcz15_0
     try clear hcz15_1
     try clear hcz15_2
     try clear hcz15_3
     try clear hcz15_4
     try clear hcz20_0
     try clear hcz20_1
     try clear hcz20_2
     try clear hcz20_3
     try clear hcz20_4
     try clear hcz23_0
     try clear hcz23_1
     try clear hcz23_2
     try clear hcz23_3
     try clear hcz23_4
     try clear hcz9_0
     try clear hcz9_1
     try clear hcz9_2
     try clear hcz9_3
     try clear hcz9_4
     try clear hfz11_0
     try clear hfz11_1
     try clear hfz11_2
     try clear hfz11_3
     try clear hfz11_4
     try clear hfz15_0
     try clear hfz15_1
     try clear hfz15_2
     try clear hfz15_3
     try clear hfz15_4
     try clear hfz20_0
     try clear hfz20_1
     try clear hfz20_2
     try clear hfz20_3
     try clear hfz20_4
     try clear hfz23_0
     try clear hfz23_1
     try clear hfz23_2
     try clear hfz23_3
     try clear hfz23_4
     try clear hfz9_0
     try clear hfz9_1
     try clear hfz9_2
     try clear hfz9_3
     try clear hfz9_4
     try clear p2
     obtain ⟨kq, x46_18, rfl, HA, HJ18, HO_437003, HO_437004, HO_451003, HO_451004, BK436, BK450, HB⟩ := hcut
     cases kq with
     | zero => exact absurd HA.out (by simp [tolllaw18_HeadMethods.j1])
     | succ kj18 =>
      have H := HA.out
      clear HA
      simp only [tolllaw18_HeadMethods.j1] at H
      by_cases c28 : x46_18 = true
      ·subst c28
       have H1 : (if t451.toList = ([] : List UInt8) then (if t452 = 1 then ((tolllaw18_awake.f kj18).bind fun t456 => (some t456)) else (none)) else (none)) = some r := by rw [if_pos rfl] at H; exact H
       clear H
       have H := H1
       clear H1
       by_cases c29 : t451.toList = ([] : List UInt8)
       ·rw [if_pos c29] at H
        have c29b0 : (t451.toList == ([] : List UInt8)) = true := beq_iff_eq.mpr c29
        have c29b1 : (t451.toList != ([] : List UInt8)) = false := bne_eq_false_iff_eq.mpr c29
        clear c29
        by_cases c30 : t452 = 1
        ·rw [if_pos c30] at H
         have c30b0 : (t452 == 1) = true := beq_iff_eq.mpr c30
         have c30b1 : (t452 != 1) = false := bne_eq_false_iff_eq.mpr c30
         clear c30
         replace H := Option.bind_eq_some_iff.mp H
         obtain ⟨t456, A310, H⟩ := H
         replace H : (some t456) = some r := H
         have A31 := Aside0.mk A310
         clear A310
         obtain rfl := Option.some.inj H
         go_wp2_with (first | (go_at_call 11; (with_reducible refine (tolllaw18_awake.calls kj18  t456 _ (gm_ HGL.out (bel_ HB.out)) A31.out).mono ?_); rintro e w32 ⟨rfl, hb⟩; have n0_ := am_ (Kd.R_below (R_ HO_437003.out) hb); have n1_ := am_ (Kd.R_below (R_ HO_437004.out) hb); have n2_ := am_ (Kd.R_below (R_ HO_451003.out) hb); have n3_ := am_ (Kd.R_below (R_ HO_451004.out) hb); have n4_ := am_ (blk_below (g := gb436) (o := .cells #[.string t437, .string t438, .string t439, .slice Ao12 t440.length co12, .slice Ao13 t443.length co13] 26 (0, 0)) (blk_ BK436.out) hb); have n5_ := am_ (blk_below (g := gb450) (o := .cells #[.string t446, .string t438, .string t447, .slice Ao12 t440.length co12, .slice Ao13 t443.length co13] 26 (0, 0)) (blk_ BK450.out) hb); have n6_ := am_ (below_step (bel_ HB.out) hb); clear HO_437003 HO_437004 HO_451003 HO_451004 BK436 BK450 HB; have HO_437003 := n0_; have HO_437004 := n1_; have HO_451003 := n2_; have HO_451004 := n3_; have BK436 := n4_; have BK450 := n5_; have HB := n6_; clear n0_ n1_ n2_ n3_ n4_ n5_ n6_; (try clear hb); (try clear hb2); (try clear hk); (try clear hi)))
         go_ret
         exact ⟨fi_, bel_ HB.out⟩
        ·rw [if_neg c30] at H
         exact absurd H (by simp)
       ·rw [if_neg c29] at H
        exact absurd H (by simp)
      ·replace c28 := Bool.eq_false_iff.mpr c28
       subst c28
       have H1 : (if t452 = 0 then ((head_Parse.f kj18 t451).bind fun bt457 => ((tollref07_SameAsk.f kj18 bt457.1 bt457.2.1 bt457.2.2.1 bt457.2.2.2.1 bt457.2.2.2.2.1 t446 t438 t447 t440 t443).bind fun t469 => (if t469 = true then (if bt457.2.2.2.2.2.2 = 0 then ((tolllaw18_awake.f kj18).bind fun t470 => (some t470)) else (none)) else (none)))) else (if t452 = 5 then ((tolllaw18_awake.f kj18).bind fun t471 => (some t471)) else (none))) = some r := by rw [if_neg (show ¬ (false = true) by decide)] at H; exact H
       clear H
       have H := H1
       clear H1
       by_cases c33 : t452 = 0
       ·rw [if_pos c33] at H
        have c33b0 : (t452 == 0) = true := beq_iff_eq.mpr c33
        have c33b1 : (t452 != 0) = false := bne_eq_false_iff_eq.mpr c33
        clear c33
        replace H := Option.bind_eq_some_iff.mp H
        obtain ⟨⟨t457, t458, t459, t460, t463, t466, t467⟩, A340, H⟩ := H
        replace H : ((tollref07_SameAsk.f kj18 t457 t458 t459 t460 t463 t446 t438 t447 t440 t443).bind fun t469 => (if t469 = true then (if t467 = 0 then ((tolllaw18_awake.f kj18).bind fun t470 => (some t470)) else (none)) else (none))) = some r := H
        have A34 := Aside0.mk A340
        clear A340
        replace H := Option.bind_eq_some_iff.mp H
        obtain ⟨t469, A350, H⟩ := H
        replace H : (if t469 = true then (if t467 = 0 then ((tolllaw18_awake.f kj18).bind fun t470 => (some t470)) else (none)) else (none)) = some r := H
        have A35 := Aside0.mk A350
        clear A350
        by_cases c36 : t469 = true
        ·subst c36
         have H1 : (if t467 = 0 then ((tolllaw18_awake.f kj18).bind fun t470 => (some t470)) else (none)) = some r := by rw [if_pos rfl] at H; exact H
         clear H
         have H := H1
         clear H1
         by_cases c37 : t467 = 0
         ·rw [if_pos c37] at H
          have c37b0 : (t467 == 0) = true := beq_iff_eq.mpr c37
          have c37b1 : (t467 != 0) = false := bne_eq_false_iff_eq.mpr c37
          clear c37
          replace H := Option.bind_eq_some_iff.mp H
          obtain ⟨t470, A380, H⟩ := H
          replace H : (some t470) = some r := H
          have A38 := Aside0.mk A380
          clear A380
          obtain rfl := Option.some.inj H
          go_wp2_with (first | ((with_reducible refine gate_callee (f := 9) rfl ?_); refine goesL_ (some 65) rfl rfl Tryd.func9 kr_ rfl #[.string t451] rfl rl_ ?_; (with_reducible refine (head_Parse.calls kj18 t451 t457 t458 t459 t460 t463 t466 t467 _ (gm_ HGL.out (bel_ HB.out)) A34.out).mono ?_); rintro e w39 ⟨v461, v464, rfl, ho0, ho1, hb⟩; refine ⟨_, rfl, ?_⟩; have n0_ := am_ (Kd.R_mono (Kd.R_told (Kd.R_told (Kd.R_old (R_ HO_437003.out) hb) (Kd.R_base ho0)) (Kd.R_base ho1)) (fun _ h_ => h_.1)); have n1_ := am_ (Kd.R_mono (Kd.R_told (Kd.R_told (Kd.R_old (R_ HO_437004.out) hb) (Kd.R_base ho0)) (Kd.R_base ho1)) (fun _ h_ => h_.1)); have n2_ := am_ (Kd.R_mono (Kd.R_told (Kd.R_told (Kd.R_old (R_ HO_451003.out) hb) (Kd.R_base ho0)) (Kd.R_base ho1)) (fun _ h_ => h_.1)); have n3_ := am_ (Kd.R_mono (Kd.R_told (Kd.R_told (Kd.R_old (R_ HO_451004.out) hb) (Kd.R_base ho0)) (Kd.R_base ho1)) (fun _ h_ => h_.1)); have n4_ := am_ (Kd.R_lower (Kd.R_new' (Kd.R_new' (Kd.R_new' (Kd.R_new' ho0 (Kd.R_lt (R_ HO_437003.out))) (Kd.R_lt (R_ HO_437004.out))) (Kd.R_lt (R_ HO_451003.out))) (Kd.R_lt (R_ HO_451004.out))) (below_size (bel_ HB.out))); have n5_ := am_ (Kd.R_lower (Kd.R_new' (Kd.R_new' (Kd.R_new' (Kd.R_new' ho1 (Kd.R_lt (R_ HO_437003.out))) (Kd.R_lt (R_ HO_437004.out))) (Kd.R_lt (R_ HO_451003.out))) (Kd.R_lt (R_ HO_451004.out))) (below_size (bel_ HB.out))); have n6_ := am_ (blk_below (g := gb436) (o := .cells #[.string t437, .string t438, .string t439, .slice Ao12 t440.length co12, .slice Ao13 t443.length co13] 26 (0, 0)) (blk_ BK436.out) hb); have n7_ := am_ (blk_below (g := gb450) (o := .cells #[.string t446, .string t438, .string t447, .slice Ao12 t440.length co12, .slice Ao13 t443.length co13] 26 (0, 0)) (blk_ BK450.out) hb); have n8_ := am_ (below_step (bel_ HB.out) hb); clear HO_437003 HO_437004 HO_451003 HO_451004 BK436 BK450 HB; have HO_437003 := n0_; have HO_437004 := n1_; have HO_451003 := n2_; have HO_451004 := n3_; have HO462 := n4_; have HO465 := n5_; have BK436 := n6_; have BK450 := n7_; have HB := n8_; clear n0_ n1_ n2_ n3_ n4_ n5_ n6_ n7_ n8_; (try clear hb); (try clear hb2); (try clear hk); (try clear hi); (try clear ho0); (try clear ho1)) | ((with_reducible refine gate_dst (N := 12) rfl ?_); refine box_event ?hg (N := 12) ?hd (cs := #[.string (⟨#[]⟩ : ByteArray), .string (⟨#[]⟩ : ByteArray), .string (⟨#[]⟩ : ByteArray), .slice none 0 0, .slice none 0 0]) (t := 26) ?hr ?_; (case hd => rfl); (case hg => rfl); (case hr => first | (go_simp; done) | (go_simp; rfl)); intro gb468 hg w40 hbox hb; have n0_ := am_ (Kd.R_below (R_ HO_437003.out) hb); have n1_ := am_ (Kd.R_below (R_ HO_437004.out) hb); have n2_ := am_ (Kd.R_below (R_ HO_451003.out) hb); have n3_ := am_ (Kd.R_below (R_ HO_451004.out) hb); have n4_ := am_ (Kd.R_below (R_ HO462.out) hb); have n5_ := am_ (Kd.R_below (R_ HO465.out) hb); have n6_ := am_ (blk_below (g := gb436) (o := .cells #[.string t437, .string t438, .string t439, .slice Ao12 t440.length co12, .slice Ao13 t443.length co13] 26 (0, 0)) (blk_ BK436.out) hb); have n7_ := am_ (blk_below (g := gb450) (o := .cells #[.string t446, .string t438, .string t447, .slice Ao12 t440.length co12, .slice Ao13 t443.length co13] 26 (0, 0)) (blk_ BK450.out) hb); have n8_ := am_ (below_step (bel_ HB.out) hb); have n9_ := am_ (hbox); have n10_ := am_ ((by rw [hg]; exact (below_size (bel_ HB.out)) : w.heap.size ≤ gb468)); have n11_ := am_ ((by rw [hg]; exact (below_size (bel_ HB.out)) : w.heap.size ≤ gb468)); have n12_ := am_ ((by rw [hg]; exact Nat.ne_of_lt (blk_lt (g := gb436) (o := .cells #[.string t437, .string t438, .string t439, .slice Ao12 t440.length co12, .slice Ao13 t443.length co13] 26 (0, 0)) (blk_ BK436.out)) : gb436 ≠ gb468)); have n13_ := am_ ((by rw [hg]; exact Nat.ne_of_gt (blk_lt (g := gb436) (o := .cells #[.string t437, .string t438, .string t439, .slice Ao12 t440.length co12, .slice Ao13 t443.length co13] 26 (0, 0)) (blk_ BK436.out)) : gb468 ≠ gb436)); have n14_ := am_ ((by rw [hg]; exact Nat.ne_of_lt (blk_lt (g := gb450) (o := .cells #[.string t446, .string t438, .string t447, .slice Ao12 t440.length co12, .slice Ao13 t443.length co13] 26 (0, 0)) (blk_ BK450.out)) : gb450 ≠ gb468)); have n15_ := am_ ((by rw [hg]; exact Nat.ne_of_gt (blk_lt (g := gb450) (o := .cells #[.string t446, .string t438, .string t447, .slice Ao12 t440.length co12, .slice Ao13 t443.length co13] 26 (0, 0)) (blk_ BK450.out)) : gb468 ≠ gb450)); clear HO_437003 HO_437004 HO_451003 HO_451004 HO462 HO465 BK436 BK450 HB; have HO_437003 := n0_; have HO_437004 := n1_; have HO_451003 := n2_; have HO_451004 := n3_; have HO462 := n4_; have HO465 := n5_; have BK436 := n6_; have BK450 := n7_; have HB := n8_; have BK468 := n9_; have GW468 := n10_; have GE468 := n11_; have NB436_468 := n12_; have NB468_436 := n13_; have NB450_468 := n14_; have NB468_450 := n15_; clear n0_ n1_ n2_ n3_ n4_ n5_ n6_ n7_ n8_ n9_ n10_ n11_ n12_ n13_ n14_ n15_ hb hbox hg; have hnb41 := NB468_436.out; have hnc41 := NB436_468.out; have hnb42 := NB468_450.out; have hnc42 := NB450_468.out; have hcz43_0 : w40.cell? ⟨gb468, 0, none⟩ = some (.string (⟨#[]⟩ : ByteArray)) := (blk_cell BK468.out 0).trans rfl; have hcz43_1 : w40.cell? ⟨gb468, 1, none⟩ = some (.string (⟨#[]⟩ : ByteArray)) := (blk_cell BK468.out 1).trans rfl; have hcz43_2 : w40.cell? ⟨gb468, 2, none⟩ = some (.string (⟨#[]⟩ : ByteArray)) := (blk_cell BK468.out 2).trans rfl; have hcz43_3 : w40.cell? ⟨gb468, 3, none⟩ = some (.slice none 0 0) := (blk_cell BK468.out 3).trans rfl; have hcz43_4 : w40.cell? ⟨gb468, 4, none⟩ = some (.slice none 0 0) := (blk_cell BK468.out 4).trans rfl; have hfz43_0 := blk_frozen BK468.out 0; have hfz43_1 := blk_frozen BK468.out 1; have hfz43_2 := blk_frozen BK468.out 2; have hfz43_3 := blk_frozen BK468.out 3; have hfz43_4 := blk_frozen BK468.out 4; obtain ⟨Ao44, co44, eo44⟩ := Kd.R_slice HO462.out; subst eo44; obtain ⟨Ao45, co45, eo45⟩ := Kd.R_slice HO465.out; subst eo45; have hnb46 := NB450_436.out; have hnc46 := NB436_450.out; have hcz47_0 : w40.cell? ⟨gb450, 0, none⟩ = some (.string t446) := (blk_cell BK450.out 0).trans rfl; have hcz47_1 : w40.cell? ⟨gb450, 1, none⟩ = some (.string t438) := (blk_cell BK450.out 1).trans rfl; have hcz47_2 : w40.cell? ⟨gb450, 2, none⟩ = some (.string t447) := (blk_cell BK450.out 2).trans rfl; have hcz47_3 : w40.cell? ⟨gb450, 3, none⟩ = some (.slice Ao12 t440.length co12) := (blk_cell BK450.out 3).trans rfl; have hcz47_4 : w40.cell? ⟨gb450, 4, none⟩ = some (.slice Ao13 t443.length co13) := (blk_cell BK450.out 4).trans rfl; have hfz47_0 := blk_frozen BK450.out 0; have hfz47_1 := blk_frozen BK450.out 1; have hfz47_2 := blk_frozen BK450.out 2; have hfz47_3 := blk_frozen BK450.out 3; have hfz47_4 := blk_frozen BK450.out 4) | ((with_reducible refine gate_callee (f := 10) rfl ?_); refine goesL_ (some 71) rfl rfl Tryd.func10 kr_ rfl #[.agg #[.string t457, .string t458, .string t459, .slice Ao44 t460.length co44, .slice Ao45 t463.length co45], .agg #[.string t446, .string t438, .string t447, .slice Ao12 t440.length co12, .slice Ao13 t443.length co13]] rfl rl_ ?_; (with_reducible refine (tollref07_SameAsk.calls kj18 t457 t458 t459 _ _ t460 _ _ t463 t446 t438 t447 _ _ t440 _ _ t443 true _ ?side1 ?side2 ?side3 ?side4 ?side5 ?side6 ?side7 ?side8 A35.out).mono ?_); (case side1 => refine (Kd.R_reads' (e := 35) (base := w.heap.size) (ok := fun k_ => ((((some k_ ≠ (.slice Ao45 t463.length co45 : Value).ownBlock ∧ some k_ ≠ (.slice Ao12 t440.length co12 : Value).ownBlock) ∧ some k_ ≠ (.slice Ao13 t443.length co13 : Value).ownBlock) ∧ some k_ ≠ (.slice Ao12 t440.length co12 : Value).ownBlock) ∧ some k_ ≠ (.slice Ao13 t443.length co13 : Value).ownBlock)) (n := t460.length) (c := co44) ?_).2.2; exact (by (with_reducible repeat (first | apply Kd.R_alloc | apply Kd.R_drewN | apply Kd.R_drew)); exact (Kd.R_mono (Kd.R_far (p := ⟨gb468, 4, none⟩) (Kd.R_far (p := ⟨gb468, 3, none⟩) (Kd.R_far (p := ⟨gb468, 2, none⟩) (Kd.R_far (p := ⟨gb468, 1, none⟩) (Kd.R_far (p := ⟨gb468, 0, none⟩) (Kd.R_types HO462.out BK468.out (by decide)) (fun _ hk => hk.2) (.string t457)) (fun _ hk => hk.2) (.string t458)) (fun _ hk => hk.2) (.string t459)) (fun _ hk => hk.2) (.slice Ao44 t460.length co44)) (fun _ hk => hk.2) (.slice Ao45 t463.length co45)) (fun _ h_ => h_.1)))); (case side2 => exact (Kd.R_reads' HO462.out).2.1); (case side3 => refine (Kd.R_reads' (e := 35) (base := w.heap.size) (ok := fun k_ => ((((some k_ ≠ (.slice Ao44 t460.length co44 : Value).ownBlock ∧ some k_ ≠ (.slice Ao12 t440.length co12 : Value).ownBlock) ∧ some k_ ≠ (.slice Ao13 t443.length co13 : Value).ownBlock) ∧ some k_ ≠ (.slice Ao12 t440.length co12 : Value).ownBlock) ∧ some k_ ≠ (.slice Ao13 t443.length co13 : Value).ownBlock)) (n := t463.length) (c := co45) ?_).2.2; exact (by (with_reducible repeat (first | apply Kd.R_alloc | apply Kd.R_drewN | apply Kd.R_drew)); exact (Kd.R_mono (Kd.R_far (p := ⟨gb468, 4, none⟩) (Kd.R_far (p := ⟨gb468, 3, none⟩) (Kd.R_far (p := ⟨gb468, 2, none⟩) (Kd.R_far (p := ⟨gb468, 1, none⟩) (Kd.R_far (p := ⟨gb468, 0, none⟩) (Kd.R_types HO465.out BK468.out (by decide)) (fun _ hk => hk.2) (.string t457)) (fun _ hk => hk.2) (.string t458)) (fun _ hk => hk.2) (.string t459)) (fun _ hk => hk.2) (.slice Ao44 t460.length co44)) (fun _ hk => hk.2) (.slice Ao45 t463.length co45)) (fun _ h_ => h_.1)))); (case side4 => exact (Kd.R_reads' HO465.out).2.1); (case side5 => refine (Kd.R_reads' (e := 35) (base := w.heap.size) (ok := fun k_ => (((some k_ ≠ (.slice Ao13 t443.length co13 : Value).ownBlock ∧ some k_ ≠ (.slice Ao13 t443.length co13 : Value).ownBlock) ∧ some k_ ≠ (.slice Ao44 t460.length co44 : Value).ownBlock) ∧ some k_ ≠ (.slice Ao45 t463.length co45 : Value).ownBlock)) (n := t440.length) (c := co12) ?_).2.2; exact (by (with_reducible repeat (first | apply Kd.R_alloc | apply Kd.R_drewN | apply Kd.R_drew)); exact (Kd.R_mono (Kd.R_far (p := ⟨gb468, 4, none⟩) (Kd.R_far (p := ⟨gb468, 3, none⟩) (Kd.R_far (p := ⟨gb468, 2, none⟩) (Kd.R_far (p := ⟨gb468, 1, none⟩) (Kd.R_far (p := ⟨gb468, 0, none⟩) (Kd.R_types HO_451003.out BK468.out (by decide)) (fun _ hk => hk.2) (.string t457)) (fun _ hk => hk.2) (.string t458)) (fun _ hk => hk.2) (.string t459)) (fun _ hk => hk.2) (.slice Ao44 t460.length co44)) (fun _ hk => hk.2) (.slice Ao45 t463.length co45)) (fun _ h_ => h_.1)))); (case side6 => exact (Kd.R_reads' HO_451003.out).2.1); (case side7 => refine (Kd.R_reads' (e := 35) (base := w.heap.size) (ok := fun k_ => (((some k_ ≠ (.slice Ao12 t440.length co12 : Value).ownBlock ∧ some k_ ≠ (.slice Ao12 t440.length co12 : Value).ownBlock) ∧ some k_ ≠ (.slice Ao44 t460.length co44 : Value).ownBlock) ∧ some k_ ≠ (.slice Ao45 t463.length co45 : Value).ownBlock)) (n := t443.length) (c := co13) ?_).2.2; exact (by (with_reducible repeat (first | apply Kd.R_alloc | apply Kd.R_drewN | apply Kd.R_drew)); exact (Kd.R_mono (Kd.R_far (p := ⟨gb468, 4, none⟩) (Kd.R_far (p := ⟨gb468, 3, none⟩) (Kd.R_far (p := ⟨gb468, 2, none⟩) (Kd.R_far (p := ⟨gb468, 1, none⟩) (Kd.R_far (p := ⟨gb468, 0, none⟩) (Kd.R_types HO_451004.out BK468.out (by decide)) (fun _ hk => hk.2) (.string t457)) (fun _ hk => hk.2) (.string t458)) (fun _ hk => hk.2) (.string t459)) (fun _ hk => hk.2) (.slice Ao44 t460.length co44)) (fun _ hk => hk.2) (.slice Ao45 t463.length co45)) (fun _ h_ => h_.1)))); (case side8 => exact (Kd.R_reads' HO_451004.out).2.1); rintro e w48 ⟨rfl, hb⟩; refine ⟨_, rfl, ?_⟩; have n0_ := am_ (Kd.R_below (by (with_reducible repeat (first | apply Kd.R_alloc | apply Kd.R_drewN | apply Kd.R_drew)); exact (Kd.R_mono (Kd.R_far (p := ⟨gb468, 4, none⟩) (Kd.R_far (p := ⟨gb468, 3, none⟩) (Kd.R_far (p := ⟨gb468, 2, none⟩) (Kd.R_far (p := ⟨gb468, 1, none⟩) (Kd.R_far (p := ⟨gb468, 0, none⟩) (Kd.R_types HO_437003.out BK468.out (by decide)) (fun _ hk => hk.2) (.string t457)) (fun _ hk => hk.2) (.string t458)) (fun _ hk => hk.2) (.string t459)) (fun _ hk => hk.2) (.slice Ao44 t460.length co44)) (fun _ hk => hk.2) (.slice Ao45 t463.length co45)) (fun _ h_ => h_.1))) hb); have n1_ := am_ (Kd.R_below (by (with_reducible repeat (first | apply Kd.R_alloc | apply Kd.R_drewN | apply Kd.R_drew)); exact (Kd.R_mono (Kd.R_far (p := ⟨gb468, 4, none⟩) (Kd.R_far (p := ⟨gb468, 3, none⟩) (Kd.R_far (p := ⟨gb468, 2, none⟩) (Kd.R_far (p := ⟨gb468, 1, none⟩) (Kd.R_far (p := ⟨gb468, 0, none⟩) (Kd.R_types HO_437004.out BK468.out (by decide)) (fun _ hk => hk.2) (.string t457)) (fun _ hk => hk.2) (.string t458)) (fun _ hk => hk.2) (.string t459)) (fun _ hk => hk.2) (.slice Ao44 t460.length co44)) (fun _ hk => hk.2) (.slice Ao45 t463.length co45)) (fun _ h_ => h_.1))) hb); have n2_ := am_ (Kd.R_below (by (with_reducible repeat (first | apply Kd.R_alloc | apply Kd.R_drewN | apply Kd.R_drew)); exact (Kd.R_mono (Kd.R_far (p := ⟨gb468, 4, none⟩) (Kd.R_far (p := ⟨gb468, 3, none⟩) (Kd.R_far (p := ⟨gb468, 2, none⟩) (Kd.R_far (p := ⟨gb468, 1, none⟩) (Kd.R_far (p := ⟨gb468, 0, none⟩) (Kd.R_types HO_451003.out BK468.out (by decide)) (fun _ hk => hk.2) (.string t457)) (fun _ hk => hk.2) (.string t458)) (fun _ hk => hk.2) (.string t459)) (fun _ hk => hk.2) (.slice Ao44 t460.length co44)) (fun _ hk => hk.2) (.slice Ao45 t463.length co45)) (fun _ h_ => h_.1))) hb); have n3_ := am_ (Kd.R_below (by (with_reducible repeat (first | apply Kd.R_alloc | apply Kd.R_drewN | apply Kd.R_drew)); exact (Kd.R_mono (Kd.R_far (p := ⟨gb468, 4, none⟩) (Kd.R_far (p := ⟨gb468, 3, none⟩) (Kd.R_far (p := ⟨gb468, 2, none⟩) (Kd.R_far (p := ⟨gb468, 1, none⟩) (Kd.R_far (p := ⟨gb468, 0, none⟩) (Kd.R_types HO_451004.out BK468.out (by decide)) (fun _ hk => hk.2) (.string t457)) (fun _ hk => hk.2) (.string t458)) (fun _ hk => hk.2) (.string t459)) (fun _ hk => hk.2) (.slice Ao44 t460.length co44)) (fun _ hk => hk.2) (.slice Ao45 t463.length co45)) (fun _ h_ => h_.1))) hb); have n4_ := am_ (Kd.R_below (by (with_reducible repeat (first | apply Kd.R_alloc | apply Kd.R_drewN | apply Kd.R_drew)); exact (Kd.R_mono (Kd.R_far (p := ⟨gb468, 4, none⟩) (Kd.R_far (p := ⟨gb468, 3, none⟩) (Kd.R_far (p := ⟨gb468, 2, none⟩) (Kd.R_far (p := ⟨gb468, 1, none⟩) (Kd.R_far (p := ⟨gb468, 0, none⟩) (Kd.R_types HO462.out BK468.out (by decide)) (fun _ hk => hk.2) (.string t457)) (fun _ hk => hk.2) (.string t458)) (fun _ hk => hk.2) (.string t459)) (fun _ hk => hk.2) (.slice Ao44 t460.length co44)) (fun _ hk => hk.2) (.slice Ao45 t463.length co45)) (fun _ h_ => h_.1))) hb); have n5_ := am_ (Kd.R_below (by (with_reducible repeat (first | apply Kd.R_alloc | apply Kd.R_drewN | apply Kd.R_drew)); exact (Kd.R_mono (Kd.R_far (p := ⟨gb468, 4, none⟩) (Kd.R_far (p := ⟨gb468, 3, none⟩) (Kd.R_far (p := ⟨gb468, 2, none⟩) (Kd.R_far (p := ⟨gb468, 1, none⟩) (Kd.R_far (p := ⟨gb468, 0, none⟩) (Kd.R_types HO465.out BK468.out (by decide)) (fun _ hk => hk.2) (.string t457)) (fun _ hk => hk.2) (.string t458)) (fun _ hk => hk.2) (.string t459)) (fun _ hk => hk.2) (.slice Ao44 t460.length co44)) (fun _ hk => hk.2) (.slice Ao45 t463.length co45)) (fun _ h_ => h_.1))) hb); have n6_ := am_ (blk_below (g := gb436) (o := .cells #[.string t437, .string t438, .string t439, .slice Ao12 t440.length co12, .slice Ao13 t443.length co13] 26 (0, 0)) (by (with_reducible repeat (first | refine blk_drewN ?_ _ | refine blk_drew ?_ | refine blk_alloc ?_ _)); refine blk_far ?_ NB436_468.out _; (with_reducible repeat (first | refine blk_drewN ?_ _ | refine blk_drew ?_ | refine blk_alloc ?_ _)); refine blk_far ?_ NB436_468.out _; (with_reducible repeat (first | refine blk_drewN ?_ _ | refine blk_drew ?_ | refine blk_alloc ?_ _)); refine blk_far ?_ NB436_468.out _; (with_reducible repeat (first | refine blk_drewN ?_ _ | refine blk_drew ?_ | refine blk_alloc ?_ _)); refine blk_far ?_ NB436_468.out _; (with_reducible repeat (first | refine blk_drewN ?_ _ | refine blk_drew ?_ | refine blk_alloc ?_ _)); refine blk_far ?_ NB436_468.out _; (with_reducible repeat (first | refine blk_drewN ?_ _ | refine blk_drew ?_ | refine blk_alloc ?_ _)); exact BK436.out) hb); have n7_ := am_ (blk_below (g := gb450) (o := .cells #[.string t446, .string t438, .string t447, .slice Ao12 t440.length co12, .slice Ao13 t443.length co13] 26 (0, 0)) (by (with_reducible repeat (first | refine blk_drewN ?_ _ | refine blk_drew ?_ | refine blk_alloc ?_ _)); refine blk_far ?_ NB450_468.out _; (with_reducible repeat (first | refine blk_drewN ?_ _ | refine blk_drew ?_ | refine blk_alloc ?_ _)); refine blk_far ?_ NB450_468.out _; (with_reducible repeat (first | refine blk_drewN ?_ _ | refine blk_drew ?_ | refine blk_alloc ?_ _)); refine blk_far ?_ NB450_468.out _; (with_reducible repeat (first | refine blk_drewN ?_ _ | refine blk_drew ?_ | refine blk_alloc ?_ _)); refine blk_far ?_ NB450_468.out _; (with_reducible repeat (first | refine blk_drewN ?_ _ | refine blk_drew ?_ | refine blk_alloc ?_ _)); refine blk_far ?_ NB450_468.out _; (with_reducible repeat (first | refine blk_drewN ?_ _ | refine blk_drew ?_ | refine blk_alloc ?_ _)); exact BK450.out) hb); have n8_ := am_ (blk_below (g := gb468) (o := .cells #[.string t457, .string t458, .string t459, .slice Ao44 t460.length co44, .slice Ao45 t463.length co45] 26 (0, 0)) (by (with_reducible repeat (first | refine blk_drewN ?_ _ | refine blk_drew ?_ | refine blk_alloc ?_ _)); refine blk_put (cs := #[.string t457, .string t458, .string t459, .slice Ao44 t460.length co44, .slice none 0 0]) ?_ 4 _ rfl; (with_reducible repeat (first | refine blk_drewN ?_ _ | refine blk_drew ?_ | refine blk_alloc ?_ _)); refine blk_put (cs := #[.string t457, .string t458, .string t459, .slice none 0 0, .slice none 0 0]) ?_ 3 _ rfl; (with_reducible repeat (first | refine blk_drewN ?_ _ | refine blk_drew ?_ | refine blk_alloc ?_ _)); refine blk_put (cs := #[.string t457, .string t458, .string (⟨#[]⟩ : ByteArray), .slice none 0 0, .slice none 0 0]) ?_ 2 _ rfl; (with_reducible repeat (first | refine blk_drewN ?_ _ | refine blk_drew ?_ | refine blk_alloc ?_ _)); refine blk_put (cs := #[.string t457, .string (⟨#[]⟩ : ByteArray), .string (⟨#[]⟩ : ByteArray), .slice none 0 0, .slice none 0 0]) ?_ 1 _ rfl; (with_reducible repeat (first | refine blk_drewN ?_ _ | refine blk_drew ?_ | refine blk_alloc ?_ _)); refine blk_put (cs := #[.string (⟨#[]⟩ : ByteArray), .string (⟨#[]⟩ : ByteArray), .string (⟨#[]⟩ : ByteArray), .slice none 0 0, .slice none 0 0]) ?_ 0 _ rfl; (with_reducible repeat (first | refine blk_drewN ?_ _ | refine blk_drew ?_ | refine blk_alloc ?_ _)); exact BK468.out) hb); have n9_ := am_ (below_step (bel_ HB.out) hb); clear HO_437003 HO_437004 HO_451003 HO_451004 HO462 HO465 BK436 BK450 BK468 HB; have HO_437003 := n0_; have HO_437004 := n1_; have HO_451003 := n2_; have HO_451004 := n3_; have HO462 := n4_; have HO465 := n5_; have BK436 := n6_; have BK450 := n7_; have BK468 := n8_; have HB := n9_; clear n0_ n1_ n2_ n3_ n4_ n5_ n6_ n7_ n8_ n9_; (try clear hb); (try clear hb2); (try clear hk); (try clear hi)) | (go_at_call 11; (with_reducible refine (tolllaw18_awake.calls kj18  t470 _ (gm_ HGL.out (bel_ HB.out)) A38.out).mono ?_); rintro e w49 ⟨rfl, hb⟩; have n0_ := am_ (Kd.R_below (R_ HO_437003.out) hb); have n1_ := am_ (Kd.R_below (R_ HO_437004.out) hb); have n2_ := am_ (Kd.R_below (R_ HO_451003.out) hb); have n3_ := am_ (Kd.R_below (R_ HO_451004.out) hb); have n4_ := am_ (Kd.R_below (R_ HO462.out) hb); have n5_ := am_ (Kd.R_below (R_ HO465.out) hb); have n6_ := am_ (blk_below (g := gb436) (o := .cells #[.string t437, .string t438, .string t439, .slice Ao12 t440.length co12, .slice Ao13 t443.length co13] 26 (0, 0)) (blk_ BK436.out) hb); have n7_ := am_ (blk_below (g := gb450) (o := .cells #[.string t446, .string t438, .string t447, .slice Ao12 t440.length co12, .slice Ao13 t443.length co13] 26 (0, 0)) (blk_ BK450.out) hb); have n8_ := am_ (blk_below (g := gb468) (o := .cells #[.string t457, .string t458, .string t459, .slice Ao44 t460.length co44, .slice Ao45 t463.length co45] 26 (0, 0)) (blk_ BK468.out) hb); have n9_ := am_ (below_step (bel_ HB.out) hb); clear HO_437003 HO_437004 HO_451003 HO_451004 HO462 HO465 BK436 BK450 BK468 HB; have HO_437003 := n0_; have HO_437004 := n1_; have HO_451003 := n2_; have HO_451004 := n3_; have HO462 := n4_; have HO465 := n5_; have BK436 := n6_; have BK450 := n7_; have BK468 := n8_; have HB := n9_; clear n0_ n1_ n2_ n3_ n4_ n5_ n6_ n7_ n8_ n9_; (try clear hb); (try clear hb2); (try clear hk); (try clear hi)))
          go_ret
          exact ⟨fi_, bel_ HB.out⟩
         ·rw [if_neg c37] at H
          exact absurd H (by simp)
        ·replace c36 := Bool.eq_false_iff.mpr c36
         subst c36
         have H1 : (none) = some r := by rw [if_neg (show ¬ (false = true) by decide)] at H; exact H
         clear H
         have H := H1
         clear H1
         exact absurd H (by simp)
       ·rw [if_neg c33] at H
        have c33b0 : (t452 == 0) = false := beq_eq_false_iff_ne.mpr c33
        have c33b1 : (t452 != 0) = true := bne_iff_ne.mpr c33
        by_cases c50 : t452 = 5
        ·rw [if_pos c50] at H
         have c50b0 : (t452 == 5) = true := beq_iff_eq.mpr c50
         have c50b1 : (t452 != 5) = false := bne_eq_false_iff_eq.mpr c50
         clear c50
         replace H := Option.bind_eq_some_iff.mp H
         obtain ⟨t471, A510, H⟩ := H
         replace H : (some t471) = some r := H
         have A51 := Aside0.mk A510
         clear A510
         obtain rfl := Option.some.inj H
         go_wp2_with (first | (go_at_call 11; (with_reducible refine (tolllaw18_awake.calls kj18  t471 _ (gm_ HGL.out (bel_ HB.out)) A51.out).mono ?_); rintro e w52 ⟨rfl, hb⟩; have n0_ := am_ (Kd.R_below (R_ HO_437003.out) hb); have n1_ := am_ (Kd.R_below (R_ HO_437004.out) hb); have n2_ := am_ (Kd.R_below (R_ HO_451003.out) hb); have n3_ := am_ (Kd.R_below (R_ HO_451004.out) hb); have n4_ := am_ (blk_below (g := gb436) (o := .cells #[.string t437, .string t438, .string t439, .slice Ao12 t440.length co12, .slice Ao13 t443.length co13] 26 (0, 0)) (blk_ BK436.out) hb); have n5_ := am_ (blk_below (g := gb450) (o := .cells #[.string t446, .string t438, .string t447, .slice Ao12 t440.length co12, .slice Ao13 t443.length co13] 26 (0, 0)) (blk_ BK450.out) hb); have n6_ := am_ (below_step (bel_ HB.out) hb); clear HO_437003 HO_437004 HO_451003 HO_451004 BK436 BK450 HB; have HO_437003 := n0_; have HO_437004 := n1_; have HO_451003 := n2_; have HO_451004 := n3_; have BK436 := n4_; have BK450 := n5_; have HB := n6_; clear n0_ n1_ n2_ n3_ n4_ n5_ n6_; (try clear hb); (try clear hb2); (try clear hk); (try clear hi)))
         go_ret
         exact ⟨fi_, bel_ HB.out⟩
        ·rw [if_neg c50] at H
         exact absurd H (by simp)
   ·rw [if_neg c18] at H
    have c18b0 : (x8_6 == 0) = false := beq_eq_false_iff_ne.mpr c18
    have c18b1 : (x8_6 != 0) = true := bne_iff_ne.mpr c18
    replace H := Option.bind_eq_some_iff.mp H
    obtain ⟨t453, A530, H⟩ := H
    replace H : (some t453) = some r := H
    have A53 := Aside0.mk A530
    clear A530
    obtain rfl := Option.some.inj H
    have hcz54_0 : wc.cell? ⟨gb436, 0, none⟩ = some (.string t437) := (blk_cell BK436.out 0).trans rfl
    have hcz54_1 : wc.cell? ⟨gb436, 1, none⟩ = some (.string t438) := (blk_cell BK436.out 1).trans rfl
    have hcz54_2 : wc.cell? ⟨gb436, 2, none⟩ = some (.string t439) := (blk_cell BK436.out 2).trans rfl
    have hcz54_3 : wc.cell? ⟨gb436, 3, none⟩ = some (.slice Ao12 t440.length co12) := (blk_cell BK436.out 3).trans rfl
    have hcz54_4 : wc.cell? ⟨gb436, 4, none⟩ = some (.slice Ao13 t443.length co13) := (blk_cell BK436.out 4).trans rfl
    have hfz54_0 := blk_frozen BK436.out 0
    have hfz54_1 := blk_frozen BK436.out 1
    have hfz54_2 := blk_frozen BK436.out 2
    have hfz54_3 := blk_frozen BK436.out 3
    have hfz54_4 := blk_frozen BK436.out 4
    go_upto_region 4 with (first | ((with_reducible refine gate_dst (N := 9) rfl ?_); refine box_event ?hg (N := 9) ?hd (cs := #[.string (⟨#[]⟩ : ByteArray), .string (⟨#[]⟩ : ByteArray), .string (⟨#[]⟩ : ByteArray), .slice none 0 0, .slice none 0 0]) (t := 26) ?hr ?_; (case hd => rfl); (case hg => rfl); (case hr => first | (go_simp; done) | (go_simp; rfl)); intro gb450 hg w55 hbox hb; have n0_ := am_ (Kd.R_below (R_ HO_437003.out) hb); have n1_ := am_ (Kd.R_below (R_ HO_437004.out) hb); have n2_ := am_ (blk_below (g := gb436) (o := .cells #[.string t437, .string t438, .string t439, .slice Ao12 t440.length co12, .slice Ao13 t443.length co13] 26 (0, 0)) (blk_ BK436.out) hb); have n3_ := am_ (below_step (bel_ HB.out) hb); have n4_ := am_ (hbox); have n5_ := am_ ((by rw [hg]; exact (below_size (bel_ HB.out)) : w.heap.size ≤ gb450)); have n6_ := am_ ((by rw [hg]; exact (below_size (bel_ HB.out)) : w.heap.size ≤ gb450)); have n7_ := am_ ((by rw [hg]; exact Nat.ne_of_lt (blk_lt (g := gb436) (o := .cells #[.string t437, .string t438, .string t439, .slice Ao12 t440.length co12, .slice Ao13 t443.length co13] 26 (0, 0)) (blk_ BK436.out)) : gb436 ≠ gb450)); have n8_ := am_ ((by rw [hg]; exact Nat.ne_of_gt (blk_lt (g := gb436) (o := .cells #[.string t437, .string t438, .string t439, .slice Ao12 t440.length co12, .slice Ao13 t443.length co13] 26 (0, 0)) (blk_ BK436.out)) : gb450 ≠ gb436)); clear HO_437003 HO_437004 BK436 HB; have HO_437003 := n0_; have HO_437004 := n1_; have BK436 := n2_; have HB := n3_; have BK450 := n4_; have GW450 := n5_; have GE450 := n6_; have NB436_450 := n7_; have NB450_436 := n8_; clear n0_ n1_ n2_ n3_ n4_ n5_ n6_ n7_ n8_ hb hbox hg; have hnb56 := NB450_436.out; have hnc56 := NB436_450.out; have hcz57_0 : w55.cell? ⟨gb450, 0, none⟩ = some (.string (⟨#[]⟩ : ByteArray)) := (blk_cell BK450.out 0).trans rfl; have hcz57_1 : w55.cell? ⟨gb450, 1, none⟩ = some (.string (⟨#[]⟩ : ByteArray)) := (blk_cell BK450.out 1).trans rfl; have hcz57_2 : w55.cell? ⟨gb450, 2, none⟩ = some (.string (⟨#[]⟩ : ByteArray)) := (blk_cell BK450.out 2).trans rfl; have hcz57_3 : w55.cell? ⟨gb450, 3, none⟩ = some (.slice none 0 0) := (blk_cell BK450.out 3).trans rfl; have hcz57_4 : w55.cell? ⟨gb450, 4, none⟩ = some (.slice none 0 0) := (blk_cell BK450.out 4).trans rfl; have hfz57_0 := blk_frozen BK450.out 0; have hfz57_1 := blk_frozen BK450.out 1; have hfz57_2 := blk_frozen BK450.out 2; have hfz57_3 := blk_frozen BK450.out 3; have hfz57_4 := blk_frozen BK450.out 4))
    have n0_ := am_ (Kd.R_mono (Kd.R_far (p := ⟨gb450, 4, none⟩) (Kd.R_far (p := ⟨gb450, 3, none⟩) (Kd.R_far (p := ⟨gb450, 2, none⟩) (Kd.R_far (p := ⟨gb450, 1, none⟩) (Kd.R_far (p := ⟨gb450, 0, none⟩) (Kd.R_types HO_437003.out BK450.out (by decide)) (fun _ hk => hk.2) (.string t437)) (fun _ hk => hk.2) (.string t438)) (fun _ hk => hk.2) (.string t439)) (fun _ hk => hk.2) (.slice Ao12 t440.length co12)) (fun _ hk => hk.2) (.slice Ao13 t443.length co13)) (fun _ h_ => h_.1))
    have n1_ := am_ (Kd.R_mono (Kd.R_far (p := ⟨gb450, 4, none⟩) (Kd.R_far (p := ⟨gb450, 3, none⟩) (Kd.R_far (p := ⟨gb450, 2, none⟩) (Kd.R_far (p := ⟨gb450, 1, none⟩) (Kd.R_far (p := ⟨gb450, 0, none⟩) (Kd.R_types HO_437004.out BK450.out (by decide)) (fun _ hk => hk.2) (.string t437)) (fun _ hk => hk.2) (.string t438)) (fun _ hk => hk.2) (.string t439)) (fun _ hk => hk.2) (.slice Ao12 t440.length co12)) (fun _ hk => hk.2) (.slice Ao13 t443.length co13)) (fun _ h_ => h_.1))
    have n2_ := am_ (blk_far (p := ⟨gb450, 4, none⟩) (blk_far (p := ⟨gb450, 3, none⟩) (blk_far (p := ⟨gb450, 2, none⟩) (blk_far (p := ⟨gb450, 1, none⟩) (blk_far (p := ⟨gb450, 0, none⟩) BK436.out NB436_450.out (.string t437)) NB436_450.out (.string t438)) NB436_450.out (.string t439)) NB436_450.out (.slice Ao12 t440.length co12)) NB436_450.out (.slice Ao13 t443.length co13))
    have n3_ := am_ (blk_put (cs' := #[.string t437, .string t438, .string t439, .slice Ao12 t440.length co12, .slice Ao13 t443.length co13]) (blk_put (cs' := #[.string t437, .string t438, .string t439, .slice Ao12 t440.length co12, .slice none 0 0]) (blk_put (cs' := #[.string t437, .string t438, .string t439, .slice none 0 0, .slice none 0 0]) (blk_put (cs' := #[.string t437, .string t438, .string (⟨#[]⟩ : ByteArray), .slice none 0 0, .slice none 0 0]) (blk_put (cs' := #[.string t437, .string (⟨#[]⟩ : ByteArray), .string (⟨#[]⟩ : ByteArray), .slice none 0 0, .slice none 0 0]) BK450.out 0 (.string t437) rfl) 1 (.string t438) rfl) 2 (.string t439) rfl) 3 (.slice Ao12 t440.length co12) rfl) 4 (.slice Ao13 t443.length co13) rfl)
    have n4_ := am_ (bel_ (W' := (((((w55.setCell ⟨gb450, 0, none⟩ (.string t437)).setCell ⟨gb450, 1, none⟩ (.string t438)).setCell ⟨gb450, 2, none⟩ (.string t439)).setCell ⟨gb450, 3, none⟩ (.slice Ao12 t440.length co12)).setCell ⟨gb450, 4, none⟩ (.slice Ao13 t443.length co13))) HB.out)
    clear HO_437003 HO_437004 BK436 BK450 HB
    clear hcz57_0 hcz57_1 hcz57_2 hcz57_3 hcz57_4 hfz57_0 hfz57_1 hfz57_2 hfz57_3 hfz57_4
    generalize (((((w55.setCell ⟨gb450, 0, none⟩ (.string t437)).setCell ⟨gb450, 1, none⟩ (.string t438)).setCell ⟨gb450, 2, none⟩ (.string t439)).setCell ⟨gb450, 3, none⟩ (.slice Ao12 t440.length co12)).setCell ⟨gb450, 4, none⟩ (.slice Ao13 t443.length co13)) = ww_ at n0_ n1_ n2_ n3_ n4_ ⊢
    have HO_437003 := n0_
    have HO_437004 := n1_
    have BK436 := n2_
    have BK450 := n3_
    have HB := n4_
    clear n0_ n1_ n2_ n3_ n4_
    have hczw_0 : ww_.cell? ⟨gb450, 0, none⟩ = some (.string t437) := (blk_cell BK450.out 0).trans rfl
    have hczw_1 : ww_.cell? ⟨gb450, 1, none⟩ = some (.string t438) := (blk_cell BK450.out 1).trans rfl
    have hczw_2 : ww_.cell? ⟨gb450, 2, none⟩ = some (.string t439) := (blk_cell BK450.out 2).trans rfl
    have hczw_3 : ww_.cell? ⟨gb450, 3, none⟩ = some (.slice Ao12 t440.length co12) := (blk_cell BK450.out 3).trans rfl
    have hczw_4 : ww_.cell? ⟨gb450, 4, none⟩ = some (.slice Ao13 t443.length co13) := (blk_cell BK450.out 4).trans rfl
    have hfzw_0 := blk_frozen BK450.out 0
    have hfzw_1 := blk_frozen BK450.out 1
    have hfzw_2 := blk_frozen BK450.out 2
    have hfzw_3 := blk_frozen BK450.out 3
    have hfzw_4 := blk_frozen BK450.out 4
    go_wp2_with (first | ((with_reducible refine gate_callee (f := 12) rfl ?_); refine goesL_ (some 33) rfl rfl Tryd.func12 kr_ rfl #[.agg #[.string t446, .string t438, .string t447, .slice Ao12 t440.length co12, .slice Ao13 t443.length co13]] rfl rl_ ?_; (with_reducible refine (head_Lay.calls kj6 t446 t438 t447 _ _ t440 _ _ t443 t451 t452 _ ?side1 ?side2 ?side3 ?side4 A17.out).mono ?_); (case side1 => refine (Kd.R_reads' (e := 35) (base := w.heap.size) (ok := fun k_ => some k_ ≠ (.slice Ao13 t443.length co13 : Value).ownBlock) (n := t440.length) (c := co12) ?_).2.2; exact (by (with_reducible repeat (first | apply Kd.R_alloc | apply Kd.R_drewN | apply Kd.R_drew)); exact (Kd.R_mono (Kd.R_far (p := ⟨gb450, 2, none⟩) (Kd.R_far (p := ⟨gb450, 0, none⟩) (Kd.R_types HO_437003.out BK450.out (by decide)) (fun _ hk => hk.2) (.string t446)) (fun _ hk => hk.2) (.string t447)) (fun _ h_ => h_.1)))); (case side2 => exact (Kd.R_reads' HO_437003.out).2.1); (case side3 => refine (Kd.R_reads' (e := 35) (base := w.heap.size) (ok := fun k_ => some k_ ≠ (.slice Ao12 t440.length co12 : Value).ownBlock) (n := t443.length) (c := co13) ?_).2.2; exact (by (with_reducible repeat (first | apply Kd.R_alloc | apply Kd.R_drewN | apply Kd.R_drew)); exact (Kd.R_mono (Kd.R_far (p := ⟨gb450, 2, none⟩) (Kd.R_far (p := ⟨gb450, 0, none⟩) (Kd.R_types HO_437004.out BK450.out (by decide)) (fun _ hk => hk.2) (.string t446)) (fun _ hk => hk.2) (.string t447)) (fun _ h_ => h_.1)))); (case side4 => exact (Kd.R_reads' HO_437004.out).2.1); rintro e w58 ⟨rfl, hb⟩; refine ⟨_, rfl, ?_⟩; have n0_ := am_ (Kd.R_below (by (with_reducible repeat (first | apply Kd.R_alloc | apply Kd.R_drewN | apply Kd.R_drew)); exact (Kd.R_mono (Kd.R_far (p := ⟨gb450, 2, none⟩) (Kd.R_far (p := ⟨gb450, 0, none⟩) (Kd.R_types HO_437003.out BK450.out (by decide)) (fun _ hk => hk.2) (.string t446)) (fun _ hk => hk.2) (.string t447)) (fun _ h_ => h_.1))) hb); have n1_ := am_ (Kd.R_below (by (with_reducible repeat (first | apply Kd.R_alloc | apply Kd.R_drewN | apply Kd.R_drew)); exact (Kd.R_mono (Kd.R_far (p := ⟨gb450, 2, none⟩) (Kd.R_far (p := ⟨gb450, 0, none⟩) (Kd.R_types HO_437004.out BK450.out (by decide)) (fun _ hk => hk.2) (.string t446)) (fun _ hk => hk.2) (.string t447)) (fun _ h_ => h_.1))) hb); have n2_ := am_ (blk_below (g := gb436) (o := .cells #[.string t437, .string t438, .string t439, .slice Ao12 t440.length co12, .slice Ao13 t443.length co13] 26 (0, 0)) (by (with_reducible repeat (first | refine blk_drewN ?_ _ | refine blk_drew ?_ | refine blk_alloc ?_ _)); refine blk_far ?_ NB436_450.out _; (with_reducible repeat (first | refine blk_drewN ?_ _ | refine blk_drew ?_ | refine blk_alloc ?_ _)); refine blk_far ?_ NB436_450.out _; (with_reducible repeat (first | refine blk_drewN ?_ _ | refine blk_drew ?_ | refine blk_alloc ?_ _)); exact BK436.out) hb); have n3_ := am_ (blk_below (g := gb450) (o := .cells #[.string t446, .string t438, .string t447, .slice Ao12 t440.length co12, .slice Ao13 t443.length co13] 26 (0, 0)) (by (with_reducible repeat (first | refine blk_drewN ?_ _ | refine blk_drew ?_ | refine blk_alloc ?_ _)); refine blk_put (cs := #[.string t446, .string t438, .string t439, .slice Ao12 t440.length co12, .slice Ao13 t443.length co13]) ?_ 2 _ rfl; (with_reducible repeat (first | refine blk_drewN ?_ _ | refine blk_drew ?_ | refine blk_alloc ?_ _)); refine blk_put (cs := #[.string t437, .string t438, .string t439, .slice Ao12 t440.length co12, .slice Ao13 t443.length co13]) ?_ 0 _ rfl; (with_reducible repeat (first | refine blk_drewN ?_ _ | refine blk_drew ?_ | refine blk_alloc ?_ _)); exact BK450.out) hb); have n4_ := am_ (below_step (bel_ HB.out) hb); clear HO_437003 HO_437004 BK436 BK450 HB; have HO_437003 := n0_; have HO_437004 := n1_; have BK436 := n2_; have BK450 := n3_; have HB := n4_; clear n0_ n1_ n2_ n3_ n4_; (try clear hb); (try clear hb2); (try clear hk); (try clear hi)) | ((with_reducible refine gate_callee (f := 11) rfl ?_); refine goesL_ (some 38) rfl rfl Tryd.func11 kr_ rfl #[] rfl rl_ ?_; (with_reducible refine (tolllaw18_awake.calls kj6  t453 _ (gm_ HGL.out (bel_ HB.out)) A53.out).mono ?_); rintro e w59 ⟨rfl, hb⟩; refine ⟨_, rfl, ?_⟩; have n0_ := am_ (Kd.R_below (R_ HO_437003.out) hb); have n1_ := am_ (Kd.R_below (R_ HO_437004.out) hb); have n2_ := am_ (blk_below (g := gb436) (o := .cells #[.string t437, .string t438, .string t439, .slice Ao12 t440.length co12, .slice Ao13 t443.length co13] 26 (0, 0)) (blk_ BK436.out) hb); have n3_ := am_ (blk_below (g := gb450) (o := .cells #[.string t446, .string t438, .string t447, .slice Ao12 t440.length co12, .slice Ao13 t443.length co13] 26 (0, 0)) (blk_ BK450.out) hb); have n4_ := am_ (below_step (bel_ HB.out) hb); clear HO_437003 HO_437004 BK436 BK450 HB; have HO_437003 := n0_; have HO_437004 := n1_; have BK436 := n2_; have BK450 := n3_; have HB := n4_; clear n0_ n1_ n2_ n3_ n4_; (try clear hb); (try clear hb2); (try clear hk); (try clear hi)))
    go_ret
    exact ⟨fi_, bel_ HB.out⟩

/-- THE ONE PURE STATEMENT of tolllaw18_HeadMethods. -/
def tolllaw18_HeadMethods.Pure : Prop := ∀ (a0_0 : ByteArray) (a0_1 : ByteArray) (a0_2 : ByteArray) (l0_3 : List (S35)) (l0_4 : List (S35)) (a1 : ByteArray) (a2 : ByteArray), ((a0_0.size ≤ 140737488351232) ∧ (a0_1.size ≤ 140737488351232) ∧ (a0_2.size ≤ 140737488351232) ∧ (l0_3.length ≤ maxLen ∧ l0_3.length * 32 ≤ 140737488351232 ∧ ∀ y ∈ l0_3, (y.f0.size ≤ 140737488351232) ∧ (y.f1.size ≤ 140737488351232)) ∧ (l0_4.length ≤ maxLen ∧ l0_4.length * 32 ≤ 140737488351232 ∧ ∀ y ∈ l0_4, (y.f0.size ≤ 140737488351232) ∧ (y.f1.size ≤ 140737488351232))) → (a1.size ≤ 140737488351232) → (a2.size ≤ 140737488351232) → ∃ k, tolllaw18_HeadMethods.f k a0_0 a0_1 a0_2 l0_3 l0_4 a1 a2 = some true

end Go.Proofs.YtpmllmfamjpinaaDoor.P
