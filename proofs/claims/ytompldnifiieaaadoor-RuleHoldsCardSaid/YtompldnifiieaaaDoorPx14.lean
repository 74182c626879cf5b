-- written by wip/tool/hprint.py of this repo: the kit's print, with contracts by hand joined; Lean checks it.
import Derived.Test.YtompldnifiieaaaDoorPx0
import Derived.Test.YtompldnifiieaaaDoorPx11
import Derived.Test.YtompldnifiieaaaDoorPx12
import Derived.Test.YtompldnifiieaaaDoorPx13
namespace Go.Proofs.YtompldnifiieaaaDoor.P
open Go.RowKit Go.Proofs.YtompldnifiieaaaDoorW.PrintWords Go.Proofs.YtompldnifiieaaaDoorW.PrintLast Go.Proofs.YtompldnifiieaaaDoorW.PrintMore
attribute [local go_sem] max2_int min2_int max_two min_two max_three min_three max_four min_four   -- for this text's walks alone
set_option linter.unusedVariables false
set_option linter.unusedSimpArgs false

/-! ### tollref06_Holds: function 15 -/
noncomputable def tollref06_Holds.j0 : Nat → Bool → Int → ByteArray → ByteArray → List (S49) → List (S49) → ByteArray → ByteArray → ByteArray → List (S49) → List (S49) → Option (Bool)
 | 0, _, _, _, _, _, _, _, _, _, _, _ => none
 | k + 1, x27, x219000, x219001, x219002, x219003, x219004, x220000, x220001, x220002, x220003, x220004 => if x27 = true then (some false) else ((tollref05_Holds.f k x219003 x220004 true).bind fun t222 => (if t222 = true then ((tollref05_Holds.f k x219004 x220003 false).bind fun t223 => (some t223)) else (some false)))
noncomputable def tollref06_Holds.f (k : Nat) (a0_0 : Int) (a0_1 : ByteArray) (a0_2 : ByteArray) (l0_3 : List (S49)) (l0_4 : List (S49)) (a1_0 : ByteArray) (a1_1 : ByteArray) (a1_2 : ByteArray) (l1_3 : List (S49)) (l1_4 : List (S49)) : Option (Bool) := (tollref06_May.f k a0_0 a0_1 a0_2 l0_3 l0_4).bind fun t220 => (if t220 = true then ((tollref03_Holds.f k a0_0 a0_1 a1_2).bind fun t221 => (if t221 = true then (if a0_2.toList = ([] : List UInt8) then (tollref06_Holds.j0 k false a0_0 a0_1 a0_2 l0_3 l0_4 a1_0 a1_1 a1_2 l1_3 l1_4) else (tollref06_Holds.j0 k (a0_2.toList != a1_0.toList) a0_0 a0_1 a0_2 l0_3 l0_4 a1_0 a1_1 a1_2 l1_3 l1_4)) else (tollref06_Holds.j0 k true a0_0 a0_1 a0_2 l0_3 l0_4 a1_0 a1_1 a1_2 l1_3 l1_4))) else (tollref06_Holds.j0 k true a0_0 a0_1 a0_2 l0_3 l0_4 a1_0 a1_1 a1_2 l1_3 l1_4))
theorem tollref06_Holds.mono_l : ∀ k, (∀ y0 y1 y2 y3 y4 y5 y6 y7 y8 y9 y10, LeO (tollref06_Holds.j0 k y0 y1 y2 y3 y4 y5 y6 y7 y8 y9 y10) (tollref06_Holds.j0 (k + 1) y0 y1 y2 y3 y4 y5 y6 y7 y8 y9 y10))
 | 0 => fun _ _ _ _ _ _ _ _ _ _ _ r h => by simp [tollref06_Holds.j0] at h
 | k + 1 => by
  have ih0 := tollref06_Holds.mono_l k
  ·intro y0 y1 y2 y3 y4 y5 y6 y7 y8 y9 y10
   unfold tollref06_Holds.j0
   repeat' first
   | (with_reducible exact ih0 _ _ _ _ _ _ _ _ _ _ _)
   | (with_reducible exact tollref03_Holds.mono _ _ _ _)
   | (with_reducible exact tollref05_Holds.mono _ _ _ _)
   | (with_reducible exact tollref06_May.mono _ _ _ _ _ _)
   | (with_reducible exact LeO.refl _)
   | (with_reducible exact LeO.none _)
   | (with_reducible refine LeO.ite ?_ ?_)
   | (with_reducible refine LeO.bind ?_ (fun _ => ?_))
   | exact ih0 _ _ _ _ _ _ _ _ _ _ _
   | exact tollref03_Holds.mono _ _ _ _
   | exact tollref05_Holds.mono _ _ _ _
   | exact tollref06_May.mono _ _ _ _ _ _
   | exact LeO.none _
   | refine LeO.ite ?_ ?_
   | refine LeO.bind ?_ (fun _ => ?_)
theorem tollref06_Holds.mono : ∀ a0 a1 a2 a3 a4 a5 a6 a7 a8 a9 k, LeO (tollref06_Holds.f k a0 a1 a2 a3 a4 a5 a6 a7 a8 a9) (tollref06_Holds.f (k + 1) a0 a1 a2 a3 a4 a5 a6 a7 a8 a9) := by
 intro a0 a1 a2 a3 a4 a5 a6 a7 a8 a9 k
 have ih0 := tollref06_Holds.mono_l k
 unfold tollref06_Holds.f
 repeat' first
   | (with_reducible exact ih0 _ _ _ _ _ _ _ _ _ _ _)
   | (with_reducible exact tollref03_Holds.mono _ _ _ _)
   | (with_reducible exact tollref05_Holds.mono _ _ _ _)
   | (with_reducible exact tollref06_May.mono _ _ _ _ _ _)
   | (with_reducible exact LeO.refl _)
   | (with_reducible exact LeO.none _)
   | (with_reducible refine LeO.ite ?_ ?_)
   | (with_reducible refine LeO.bind ?_ (fun _ => ?_))
   | exact ih0 _ _ _ _ _ _ _ _ _ _ _
   | exact tollref03_Holds.mono _ _ _ _
   | exact tollref05_Holds.mono _ _ _ _
   | exact tollref06_May.mono _ _ _ _ _ _
   | exact LeO.none _
   | refine LeO.ite ?_ ?_
   | refine LeO.bind ?_ (fun _ => ?_)
set_option maxHeartbeats 8000000 in
set_option maxRecDepth 100000 in
theorem tollref06_Holds.calls (k : Nat) (a0_0 : Int) (a0_1 : ByteArray) (a0_2 : ByteArray) (A0_3 : Option Addr) (c0_3 : Nat) (l0_3 : List (S49)) (A0_4 : Option Addr) (c0_4 : Nat) (l0_4 : List (S49)) (a1_0 : ByteArray) (a1_1 : ByteArray) (a1_2 : ByteArray) (A1_3 : Option Addr) (c1_3 : Nat) (l1_3 : List (S49)) (A1_4 : Option Addr) (c1_4 : Nat) (l1_4 : List (S49)) (r : Bool) (w : World) (hr0_3 : Kd.C k49 w A0_3 l0_3.length l0_3) (hc0_3 : l0_3.length ≤ c0_3) (hr0_4 : Kd.C k49 w A0_4 l0_4.length l0_4) (hc0_4 : l0_4.length ≤ c0_4) (hr1_3 : Kd.C k49 w A1_3 l1_3.length l1_3) (hc1_3 : l1_3.length ≤ c1_3) (hr1_4 : Kd.C k49 w A1_4 l1_4.length l1_4) (hc1_4 : l1_4.length ≤ c1_4) (h : tollref06_Holds.f k a0_0 a0_1 a0_2 l0_3 l0_4 a1_0 a1_1 a1_2 l1_3 l1_4 = some r) :
  Calls Tryd.prog 15 #[.agg #[.int .i64 a0_0, .string a0_1, .string a0_2, .slice A0_3 l0_3.length c0_3, .slice A0_4 l0_4.length c0_4], .agg #[.string a1_0, .string a1_1, .string a1_2, .slice A1_3 l1_3.length c1_3, .slice A1_4 l1_4.length c1_4]] w fun e w' => e = .returned (.bool r) ∧ Below w.heap.size w w' := by
 have hu26 := Tryd.underlying26
 have hu28 := Tryd.underlying28
 have hu23 := Tryd.underlying23
 have HR0_3 := Aside0.mk hr0_3
 have HC0_3 := Aside0.mk hc0_3
 clear hr0_3 hc0_3
 have HR0_4 := Aside0.mk hr0_4
 have HC0_4 := Aside0.mk hc0_4
 clear hr0_4 hc0_4
 have HR1_3 := Aside0.mk hr1_3
 have HC1_3 := Aside0.mk hc1_3
 clear hr1_3 hc1_3
 have HR1_4 := Aside0.mk hr1_4
 have HC1_4 := Aside0.mk hc1_4
 clear hr1_4 hc1_4
 have HB := am_ (Below.refl w.heap.size w)
 have H : ((tollref06_May.f k a0_0 a0_1 a0_2 l0_3 l0_4).bind fun t220 => (if t220 = true then ((tollref03_Holds.f k a0_0 a0_1 a1_2).bind fun t221 => (if t221 = true then (if a0_2.toList = ([] : List UInt8) then (tollref06_Holds.j0 k false a0_0 a0_1 a0_2 l0_3 l0_4 a1_0 a1_1 a1_2 l1_3 l1_4) else (tollref06_Holds.j0 k (a0_2.toList != a1_0.toList) a0_0 a0_1 a0_2 l0_3 l0_4 a1_0 a1_1 a1_2 l1_3 l1_4)) else (tollref06_Holds.j0 k true a0_0 a0_1 a0_2 l0_3 l0_4 a1_0 a1_1 a1_2 l1_3 l1_4))) else (tollref06_Holds.j0 k true a0_0 a0_1 a0_2 l0_3 l0_4 a1_0 a1_1 a1_2 l1_3 l1_4))) = some r := h
 clear h
 have HC3 := Aside0.mk H
 clear H
 go_enter Tryd.func15, Tryd.ntmps15
 go_upto_region 1 with (first | ((with_reducible refine gate_dst (N := 2) rfl ?_); refine box_event ?hg (N := 2) ?hd (cs := #[.int .i64 a0_0, .string a0_1, .string a0_2, .slice A0_3 l0_3.length c0_3, .slice A0_4 l0_4.length c0_4]) (t := 26) ?hr ?_; (case hd => rfl); (case hg => rfl); (case hr => first | (go_simp; done) | (go_simp; rfl)); intro gb218 hg w4 hbox hb; have n0_ := am_ (below_step (bel_ HB.out) hb); have n1_ := am_ (hbox); have n2_ := am_ ((by rw [hg]; exact (below_size (bel_ HB.out)) : w.heap.size ≤ gb218)); have n3_ := am_ ((by rw [hg]; exact (below_size (bel_ HB.out)) : w.heap.size ≤ gb218)); clear HB; have HB := n0_; have BK218 := n1_; have GW218 := n2_; have GE218 := n3_; clear n0_ n1_ n2_ n3_ hb hbox hg) | ((with_reducible refine gate_dst (N := 3) rfl ?_); refine box_event ?hg (N := 3) ?hd (cs := #[.string a1_0, .string a1_1, .string a1_2, .slice A1_3 l1_3.length c1_3, .slice A1_4 l1_4.length c1_4]) (t := 28) ?hr ?_; (case hd => rfl); (case hg => rfl); (case hr => first | (go_simp; done) | (go_simp; rfl)); intro gb219 hg w5 hbox hb; have n0_ := am_ (blk_below (g := gb218) (o := .cells #[.int .i64 a0_0, .string a0_1, .string a0_2, .slice A0_3 l0_3.length c0_3, .slice A0_4 l0_4.length c0_4] 26 (0, 0)) (blk_ BK218.out) hb); have n1_ := am_ (below_step (bel_ HB.out) hb); have n2_ := am_ (hbox); have n3_ := am_ ((by rw [hg]; exact (below_size (bel_ HB.out)) : w.heap.size ≤ gb219)); have n4_ := am_ ((by rw [hg]; exact (below_size (bel_ HB.out)) : w.heap.size ≤ gb219)); have n5_ := am_ ((by rw [hg]; exact Nat.ne_of_lt (blk_lt (g := gb218) (o := .cells #[.int .i64 a0_0, .string a0_1, .string a0_2, .slice A0_3 l0_3.length c0_3, .slice A0_4 l0_4.length c0_4] 26 (0, 0)) (blk_ BK218.out)) : gb218 ≠ gb219)); have n6_ := am_ ((by rw [hg]; exact Nat.ne_of_gt (blk_lt (g := gb218) (o := .cells #[.int .i64 a0_0, .string a0_1, .string a0_2, .slice A0_3 l0_3.length c0_3, .slice A0_4 l0_4.length c0_4] 26 (0, 0)) (blk_ BK218.out)) : gb219 ≠ gb218)); clear BK218 HB; have BK218 := n0_; have HB := n1_; have BK219 := n2_; have GW219 := n3_; have GE219 := n4_; have NB218_219 := n5_; have NB219_218 := n6_; clear n0_ n1_ n2_ n3_ n4_ n5_ n6_ hb hbox hg))
 (try simp only [Act.put, List.setIfInBounds_toArray, List.set_cons_zero, List.set_cons_succ])
 go_cut [27] (fun v27 wc => ∃ (kq : Nat) (x27_2 : Bool), v27 = .bool x27_2 ∧ Aside0 (tollref06_Holds.j0 kq x27_2 a0_0 a0_1 a0_2 l0_3 l0_4 a1_0 a1_1 a1_2 l1_3 l1_4 = some r) ∧ Aside0 (kq ≤ k) ∧ Aside0 (wc.heap[gb218]? = some (.cells #[.int .i64 a0_0, .string a0_1, .string a0_2, (.slice A0_3 l0_3.length c0_3), (.slice A0_4 l0_4.length c0_4)] 26 (0, 0))) ∧ Aside0 (wc.heap[gb219]? = some (.cells #[.string a1_0, .string a1_1, .string a1_2, (.slice A1_3 l1_3.length c1_3), (.slice A1_4 l1_4.length c1_4)] 28 (0, 0))) ∧ Aside0 (Below w.heap.size w wc))
 case first =>
  have H := HC3.out
  clear HC3
  replace H := Option.bind_eq_some_iff.mp H
  obtain ⟨t220, A60, H⟩ := H
  replace H : (if t220 = true then ((tollref03_Holds.f k a0_0 a0_1 a1_2).bind fun t221 => (if t221 = true then (if a0_2.toList = ([] : List UInt8) then (tollref06_Holds.j0 k false a0_0 a0_1 a0_2 l0_3 l0_4 a1_0 a1_1 a1_2 l1_3 l1_4) else (tollref06_Holds.j0 k (a0_2.toList != a1_0.toList) a0_0 a0_1 a0_2 l0_3 l0_4 a1_0 a1_1 a1_2 l1_3 l1_4)) else (tollref06_Holds.j0 k true a0_0 a0_1 a0_2 l0_3 l0_4 a1_0 a1_1 a1_2 l1_3 l1_4))) else (tollref06_Holds.j0 k true a0_0 a0_1 a0_2 l0_3 l0_4 a1_0 a1_1 a1_2 l1_3 l1_4)) = some r := H
  have A6 := Aside0.mk A60
  clear A60
  by_cases c7 : t220 = true
  ·subst c7
   have H1 : ((tollref03_Holds.f k a0_0 a0_1 a1_2).bind fun t221 => (if t221 = true then (if a0_2.toList = ([] : List UInt8) then (tollref06_Holds.j0 k false a0_0 a0_1 a0_2 l0_3 l0_4 a1_0 a1_1 a1_2 l1_3 l1_4) else (tollref06_Holds.j0 k (a0_2.toList != a1_0.toList) a0_0 a0_1 a0_2 l0_3 l0_4 a1_0 a1_1 a1_2 l1_3 l1_4)) else (tollref06_Holds.j0 k true a0_0 a0_1 a0_2 l0_3 l0_4 a1_0 a1_1 a1_2 l1_3 l1_4))) = some r := by rw [if_pos rfl] at H; exact H
   clear H
   have H := H1
   clear H1
   replace H := Option.bind_eq_some_iff.mp H
   obtain ⟨t221, A80, H⟩ := H
   replace H : (if t221 = true then (if a0_2.toList = ([] : List UInt8) then (tollref06_Holds.j0 k false a0_0 a0_1 a0_2 l0_3 l0_4 a1_0 a1_1 a1_2 l1_3 l1_4) else (tollref06_Holds.j0 k (a0_2.toList != a1_0.toList) a0_0 a0_1 a0_2 l0_3 l0_4 a1_0 a1_1 a1_2 l1_3 l1_4)) else (tollref06_Holds.j0 k true a0_0 a0_1 a0_2 l0_3 l0_4 a1_0 a1_1 a1_2 l1_3 l1_4)) = some r := H
   have A8 := Aside0.mk A80
   clear A80
   by_cases c9 : t221 = true
   ·subst c9
    have H1 : (if a0_2.toList = ([] : List UInt8) then (tollref06_Holds.j0 k false a0_0 a0_1 a0_2 l0_3 l0_4 a1_0 a1_1 a1_2 l1_3 l1_4) else (tollref06_Holds.j0 k (a0_2.toList != a1_0.toList) a0_0 a0_1 a0_2 l0_3 l0_4 a1_0 a1_1 a1_2 l1_3 l1_4)) = some r := by rw [if_pos rfl] at H; exact H
    clear H
    have H := H1
    clear H1
    by_cases c10 : a0_2.toList = ([] : List UInt8)
    ·rw [if_pos c10] at H
     have c10b0 : (a0_2.toList == ([] : List UInt8)) = true := beq_iff_eq.mpr c10
     have c10b1 : (a0_2.toList != ([] : List UInt8)) = false := bne_eq_false_iff_eq.mpr c10
     clear c10
     (first | rw [c10b0] | rw [c10b1] | rw [c10b2] | (simp only [i64_w, i32_w]; rw [c10b0]) | skip)
     have H' := Aside0.mk H
     clear H
     have hnb11 := NB218_219.out
     have hnc11 := NB219_218.out
     have hcz12_0 : w5.cell? ⟨gb218, 0, none⟩ = some (.int .i64 a0_0) := (blk_cell BK218.out 0).trans rfl
     have hcz12_1 : w5.cell? ⟨gb218, 1, none⟩ = some (.string a0_1) := (blk_cell BK218.out 1).trans rfl
     have hcz12_2 : w5.cell? ⟨gb218, 2, none⟩ = some (.string a0_2) := (blk_cell BK218.out 2).trans rfl
     have hcz12_3 : w5.cell? ⟨gb218, 3, none⟩ = some (.slice A0_3 l0_3.length c0_3) := (blk_cell BK218.out 3).trans rfl
     have hcz12_4 : w5.cell? ⟨gb218, 4, none⟩ = some (.slice A0_4 l0_4.length c0_4) := (blk_cell BK218.out 4).trans rfl
     have hfz12_0 := blk_frozen BK218.out 0
     have hfz12_1 := blk_frozen BK218.out 1
     have hfz12_2 := blk_frozen BK218.out 2
     have hfz12_3 := blk_frozen BK218.out 3
     have hfz12_4 := blk_frozen BK218.out 4
     go_wp2_with (first | ((with_reducible refine gate_callee (f := 13) rfl ?_); refine goesL_ (some 6) rfl rfl Tryd.func13 kr_ rfl #[.agg #[.int .i64 a0_0, .string a0_1, .string a0_2, .slice A0_3 l0_3.length c0_3, .slice A0_4 l0_4.length c0_4]] rfl rl_ ?_; (with_reducible refine (tollref06_May.calls k a0_0 a0_1 a0_2 _ _ l0_3 _ _ l0_4 true _ ?side1 ?side2 ?side3 ?side4 A6.out).mono ?_); (case side1 => exact C_ (Kd.C_below HR0_3.out HB.out)); (case side2 => exact HC0_3.out); (case side3 => exact C_ (Kd.C_below HR0_4.out HB.out)); (case side4 => exact HC0_4.out); rintro e w13 ⟨rfl, hb⟩; refine ⟨_, rfl, ?_⟩; have n0_ := am_ (blk_below (g := gb218) (o := .cells #[.int .i64 a0_0, .string a0_1, .string a0_2, .slice A0_3 l0_3.length c0_3, .slice A0_4 l0_4.length c0_4] 26 (0, 0)) (blk_ BK218.out) hb); have n1_ := am_ (blk_below (g := gb219) (o := .cells #[.string a1_0, .string a1_1, .string a1_2, .slice A1_3 l1_3.length c1_3, .slice A1_4 l1_4.length c1_4] 28 (0, 0)) (blk_ BK219.out) hb); have n2_ := am_ (below_step (bel_ HB.out) hb); clear BK218 BK219 HB; have BK218 := n0_; have BK219 := n1_; have HB := n2_; clear n0_ n1_ n2_; (try clear hb); (try clear hb2); (try clear hk); (try clear hi); have hcz14_0 : w13.cell? ⟨gb218, 0, none⟩ = some (.int .i64 a0_0) := (blk_cell BK218.out 0).trans rfl; have hcz14_1 : w13.cell? ⟨gb218, 1, none⟩ = some (.string a0_1) := (blk_cell BK218.out 1).trans rfl; have hcz14_2 : w13.cell? ⟨gb218, 2, none⟩ = some (.string a0_2) := (blk_cell BK218.out 2).trans rfl; have hcz14_3 : w13.cell? ⟨gb218, 3, none⟩ = some (.slice A0_3 l0_3.length c0_3) := (blk_cell BK218.out 3).trans rfl; have hcz14_4 : w13.cell? ⟨gb218, 4, none⟩ = some (.slice A0_4 l0_4.length c0_4) := (blk_cell BK218.out 4).trans rfl; have hfz14_0 := blk_frozen BK218.out 0; have hfz14_1 := blk_frozen BK218.out 1; have hfz14_2 := blk_frozen BK218.out 2; have hfz14_3 := blk_frozen BK218.out 3; have hfz14_4 := blk_frozen BK218.out 4; have hcz15_0 : w13.cell? ⟨gb219, 0, none⟩ = some (.string a1_0) := (blk_cell BK219.out 0).trans rfl; have hcz15_1 : w13.cell? ⟨gb219, 1, none⟩ = some (.string a1_1) := (blk_cell BK219.out 1).trans rfl; have hcz15_2 : w13.cell? ⟨gb219, 2, none⟩ = some (.string a1_2) := (blk_cell BK219.out 2).trans rfl; have hcz15_3 : w13.cell? ⟨gb219, 3, none⟩ = some (.slice A1_3 l1_3.length c1_3) := (blk_cell BK219.out 3).trans rfl; have hcz15_4 : w13.cell? ⟨gb219, 4, none⟩ = some (.slice A1_4 l1_4.length c1_4) := (blk_cell BK219.out 4).trans rfl; have hfz15_0 := blk_frozen BK219.out 0; have hfz15_1 := blk_frozen BK219.out 1; have hfz15_2 := blk_frozen BK219.out 2; have hfz15_3 := blk_frozen BK219.out 3; have hfz15_4 := blk_frozen BK219.out 4) | (go_at_call 40; (with_reducible refine (tollref03_Holds.calls k a0_0 a0_1 a1_2 true _ A8.out).mono ?_); rintro e w16 ⟨rfl, hb⟩; have n0_ := am_ (blk_below (g := gb218) (o := .cells #[.int .i64 a0_0, .string a0_1, .string a0_2, .slice A0_3 l0_3.length c0_3, .slice A0_4 l0_4.length c0_4] 26 (0, 0)) (blk_ BK218.out) hb); have n1_ := am_ (blk_below (g := gb219) (o := .cells #[.string a1_0, .string a1_1, .string a1_2, .slice A1_3 l1_3.length c1_3, .slice A1_4 l1_4.length c1_4] 28 (0, 0)) (blk_ BK219.out) hb); have n2_ := am_ (below_step (bel_ HB.out) hb); clear BK218 BK219 HB; have BK218 := n0_; have BK219 := n1_; have HB := n2_; clear n0_ n1_ n2_; (try clear hb); (try clear hb2); (try clear hk); (try clear hi); have hcz17_0 : w16.cell? ⟨gb218, 0, none⟩ = some (.int .i64 a0_0) := (blk_cell BK218.out 0).trans rfl; have hcz17_1 : w16.cell? ⟨gb218, 1, none⟩ = some (.string a0_1) := (blk_cell BK218.out 1).trans rfl; have hcz17_2 : w16.cell? ⟨gb218, 2, none⟩ = some (.string a0_2) := (blk_cell BK218.out 2).trans rfl; have hcz17_3 : w16.cell? ⟨gb218, 3, none⟩ = some (.slice A0_3 l0_3.length c0_3) := (blk_cell BK218.out 3).trans rfl; have hcz17_4 : w16.cell? ⟨gb218, 4, none⟩ = some (.slice A0_4 l0_4.length c0_4) := (blk_cell BK218.out 4).trans rfl; have hfz17_0 := blk_frozen BK218.out 0; have hfz17_1 := blk_frozen BK218.out 1; have hfz17_2 := blk_frozen BK218.out 2; have hfz17_3 := blk_frozen BK218.out 3; have hfz17_4 := blk_frozen BK218.out 4))
     go_meet
     case rel => exact ⟨_, (false), sd_, H', ⟨by first | omega | exact Nat.le_refl _⟩, ⟨by (with_reducible repeat (first | refine blk_drewN ?_ _ | refine blk_drew ?_ | refine blk_alloc ?_ _)); exact BK218.out⟩, ⟨by (with_reducible repeat (first | refine blk_drewN ?_ _ | refine blk_drew ?_ | refine blk_alloc ?_ _)); exact BK219.out⟩, ⟨bel_ HB.out⟩⟩
    ·rw [if_neg c10] at H
     have c10b0 : (a0_2.toList == ([] : List UInt8)) = false := beq_eq_false_iff_ne.mpr c10
     have c10b1 : (a0_2.toList != ([] : List UInt8)) = true := bne_iff_ne.mpr c10
     (first | rw [c10b0] | rw [c10b1] | rw [c10b2] | (simp only [i64_w, i32_w]; rw [c10b0]) | skip)
     have H' := Aside0.mk H
     clear H
     have hnb18 := NB218_219.out
     have hnc18 := NB219_218.out
     have hcz19_0 : w5.cell? ⟨gb218, 0, none⟩ = some (.int .i64 a0_0) := (blk_cell BK218.out 0).trans rfl
     have hcz19_1 : w5.cell? ⟨gb218, 1, none⟩ = some (.string a0_1) := (blk_cell BK218.out 1).trans rfl
     have hcz19_2 : w5.cell? ⟨gb218, 2, none⟩ = some (.string a0_2) := (blk_cell BK218.out 2).trans rfl
     have hcz19_3 : w5.cell? ⟨gb218, 3, none⟩ = some (.slice A0_3 l0_3.length c0_3) := (blk_cell BK218.out 3).trans rfl
     have hcz19_4 : w5.cell? ⟨gb218, 4, none⟩ = some (.slice A0_4 l0_4.length c0_4) := (blk_cell BK218.out 4).trans rfl
     have hfz19_0 := blk_frozen BK218.out 0
     have hfz19_1 := blk_frozen BK218.out 1
     have hfz19_2 := blk_frozen BK218.out 2
     have hfz19_3 := blk_frozen BK218.out 3
     have hfz19_4 := blk_frozen BK218.out 4
     go_wp2_with (first | ((with_reducible refine gate_callee (f := 13) rfl ?_); refine goesL_ (some 6) rfl rfl Tryd.func13 kr_ rfl #[.agg #[.int .i64 a0_0, .string a0_1, .string a0_2, .slice A0_3 l0_3.length c0_3, .slice A0_4 l0_4.length c0_4]] rfl rl_ ?_; (with_reducible refine (tollref06_May.calls k a0_0 a0_1 a0_2 _ _ l0_3 _ _ l0_4 true _ ?side1 ?side2 ?side3 ?side4 A6.out).mono ?_); (case side1 => exact C_ (Kd.C_below HR0_3.out HB.out)); (case side2 => exact HC0_3.out); (case side3 => exact C_ (Kd.C_below HR0_4.out HB.out)); (case side4 => exact HC0_4.out); rintro e w20 ⟨rfl, hb⟩; refine ⟨_, rfl, ?_⟩; have n0_ := am_ (blk_below (g := gb218) (o := .cells #[.int .i64 a0_0, .string a0_1, .string a0_2, .slice A0_3 l0_3.length c0_3, .slice A0_4 l0_4.length c0_4] 26 (0, 0)) (blk_ BK218.out) hb); have n1_ := am_ (blk_below (g := gb219) (o := .cells #[.string a1_0, .string a1_1, .string a1_2, .slice A1_3 l1_3.length c1_3, .slice A1_4 l1_4.length c1_4] 28 (0, 0)) (blk_ BK219.out) hb); have n2_ := am_ (below_step (bel_ HB.out) hb); clear BK218 BK219 HB; have BK218 := n0_; have BK219 := n1_; have HB := n2_; clear n0_ n1_ n2_; (try clear hb); (try clear hb2); (try clear hk); (try clear hi); have hcz21_0 : w20.cell? ⟨gb218, 0, none⟩ = some (.int .i64 a0_0) := (blk_cell BK218.out 0).trans rfl; have hcz21_1 : w20.cell? ⟨gb218, 1, none⟩ = some (.string a0_1) := (blk_cell BK218.out 1).trans rfl; have hcz21_2 : w20.cell? ⟨gb218, 2, none⟩ = some (.string a0_2) := (blk_cell BK218.out 2).trans rfl; have hcz21_3 : w20.cell? ⟨gb218, 3, none⟩ = some (.slice A0_3 l0_3.length c0_3) := (blk_cell BK218.out 3).trans rfl; have hcz21_4 : w20.cell? ⟨gb218, 4, none⟩ = some (.slice A0_4 l0_4.length c0_4) := (blk_cell BK218.out 4).trans rfl; have hfz21_0 := blk_frozen BK218.out 0; have hfz21_1 := blk_frozen BK218.out 1; have hfz21_2 := blk_frozen BK218.out 2; have hfz21_3 := blk_frozen BK218.out 3; have hfz21_4 := blk_frozen BK218.out 4; have hcz22_0 : w20.cell? ⟨gb219, 0, none⟩ = some (.string a1_0) := (blk_cell BK219.out 0).trans rfl; have hcz22_1 : w20.cell? ⟨gb219, 1, none⟩ = some (.string a1_1) := (blk_cell BK219.out 1).trans rfl; have hcz22_2 : w20.cell? ⟨gb219, 2, none⟩ = some (.string a1_2) := (blk_cell BK219.out 2).trans rfl; have hcz22_3 : w20.cell? ⟨gb219, 3, none⟩ = some (.slice A1_3 l1_3.length c1_3) := (blk_cell BK219.out 3).trans rfl; have hcz22_4 : w20.cell? ⟨gb219, 4, none⟩ = some (.slice A1_4 l1_4.length c1_4) := (blk_cell BK219.out 4).trans rfl; have hfz22_0 := blk_frozen BK219.out 0; have hfz22_1 := blk_frozen BK219.out 1; have hfz22_2 := blk_frozen BK219.out 2; have hfz22_3 := blk_frozen BK219.out 3; have hfz22_4 := blk_frozen BK219.out 4) | (go_at_call 40; (with_reducible refine (tollref03_Holds.calls k a0_0 a0_1 a1_2 true _ A8.out).mono ?_); rintro e w23 ⟨rfl, hb⟩; have n0_ := am_ (blk_below (g := gb218) (o := .cells #[.int .i64 a0_0, .string a0_1, .string a0_2, .slice A0_3 l0_3.length c0_3, .slice A0_4 l0_4.length c0_4] 26 (0, 0)) (blk_ BK218.out) hb); have n1_ := am_ (blk_below (g := gb219) (o := .cells #[.string a1_0, .string a1_1, .string a1_2, .slice A1_3 l1_3.length c1_3, .slice A1_4 l1_4.length c1_4] 28 (0, 0)) (blk_ BK219.out) hb); have n2_ := am_ (below_step (bel_ HB.out) hb); clear BK218 BK219 HB; have BK218 := n0_; have BK219 := n1_; have HB := n2_; clear n0_ n1_ n2_; (try clear hb); (try clear hb2); (try clear hk); (try clear hi); have hcz24_0 : w23.cell? ⟨gb218, 0, none⟩ = some (.int .i64 a0_0) := (blk_cell BK218.out 0).trans rfl; have hcz24_1 : w23.cell? ⟨gb218, 1, none⟩ = some (.string a0_1) := (blk_cell BK218.out 1).trans rfl; have hcz24_2 : w23.cell? ⟨gb218, 2, none⟩ = some (.string a0_2) := (blk_cell BK218.out 2).trans rfl; have hcz24_3 : w23.cell? ⟨gb218, 3, none⟩ = some (.slice A0_3 l0_3.length c0_3) := (blk_cell BK218.out 3).trans rfl; have hcz24_4 : w23.cell? ⟨gb218, 4, none⟩ = some (.slice A0_4 l0_4.length c0_4) := (blk_cell BK218.out 4).trans rfl; have hfz24_0 := blk_frozen BK218.out 0; have hfz24_1 := blk_frozen BK218.out 1; have hfz24_2 := blk_frozen BK218.out 2; have hfz24_3 := blk_frozen BK218.out 3; have hfz24_4 := blk_frozen BK218.out 4; have hcz25_0 : w23.cell? ⟨gb219, 0, none⟩ = some (.string a1_0) := (blk_cell BK219.out 0).trans rfl; have hcz25_1 : w23.cell? ⟨gb219, 1, none⟩ = some (.string a1_1) := (blk_cell BK219.out 1).trans rfl; have hcz25_2 : w23.cell? ⟨gb219, 2, none⟩ = some (.string a1_2) := (blk_cell BK219.out 2).trans rfl; have hcz25_3 : w23.cell? ⟨gb219, 3, none⟩ = some (.slice A1_3 l1_3.length c1_3) := (blk_cell BK219.out 3).trans rfl; have hcz25_4 : w23.cell? ⟨gb219, 4, none⟩ = some (.slice A1_4 l1_4.length c1_4) := (blk_cell BK219.out 4).trans rfl; have hfz25_0 := blk_frozen BK219.out 0; have hfz25_1 := blk_frozen BK219.out 1; have hfz25_2 := blk_frozen BK219.out 2; have hfz25_3 := blk_frozen BK219.out 3; have hfz25_4 := blk_frozen BK219.out 4))
     go_meet
     case rel => exact ⟨_, ((a0_2.toList != a1_0.toList)), sd_, H', ⟨by first | omega | exact Nat.le_refl _⟩, ⟨by (with_reducible repeat (first | refine blk_drewN ?_ _ | refine blk_drew ?_ | refine blk_alloc ?_ _)); exact BK218.out⟩, ⟨by (with_reducible repeat (first | refine blk_drewN ?_ _ | refine blk_drew ?_ | refine blk_alloc ?_ _)); exact BK219.out⟩, ⟨bel_ HB.out⟩⟩
   ·replace c9 := Bool.eq_false_iff.mpr c9
    subst c9
    have H1 : (tollref06_Holds.j0 k true a0_0 a0_1 a0_2 l0_3 l0_4 a1_0 a1_1 a1_2 l1_3 l1_4) = some r := by rw [if_neg (show ¬ (false = true) by decide)] at H; exact H
    clear H
    have H := H1
    clear H1
    have H' := Aside0.mk H
    clear H
    have hnb26 := NB218_219.out
    have hnc26 := NB219_218.out
    have hcz27_0 : w5.cell? ⟨gb218, 0, none⟩ = some (.int .i64 a0_0) := (blk_cell BK218.out 0).trans rfl
    have hcz27_1 : w5.cell? ⟨gb218, 1, none⟩ = some (.string a0_1) := (blk_cell BK218.out 1).trans rfl
    have hcz27_2 : w5.cell? ⟨gb218, 2, none⟩ = some (.string a0_2) := (blk_cell BK218.out 2).trans rfl
    have hcz27_3 : w5.cell? ⟨gb218, 3, none⟩ = some (.slice A0_3 l0_3.length c0_3) := (blk_cell BK218.out 3).trans rfl
    have hcz27_4 : w5.cell? ⟨gb218, 4, none⟩ = some (.slice A0_4 l0_4.length c0_4) := (blk_cell BK218.out 4).trans rfl
    have hfz27_0 := blk_frozen BK218.out 0
    have hfz27_1 := blk_frozen BK218.out 1
    have hfz27_2 := blk_frozen BK218.out 2
    have hfz27_3 := blk_frozen BK218.out 3
    have hfz27_4 := blk_frozen BK218.out 4
    go_wp2_with (first | ((with_reducible refine gate_callee (f := 13) rfl ?_); refine goesL_ (some 6) rfl rfl Tryd.func13 kr_ rfl #[.agg #[.int .i64 a0_0, .string a0_1, .string a0_2, .slice A0_3 l0_3.length c0_3, .slice A0_4 l0_4.length c0_4]] rfl rl_ ?_; (with_reducible refine (tollref06_May.calls k a0_0 a0_1 a0_2 _ _ l0_3 _ _ l0_4 true _ ?side1 ?side2 ?side3 ?side4 A6.out).mono ?_); (case side1 => exact C_ (Kd.C_below HR0_3.out HB.out)); (case side2 => exact HC0_3.out); (case side3 => exact C_ (Kd.C_below HR0_4.out HB.out)); (case side4 => exact HC0_4.out); rintro e w28 ⟨rfl, hb⟩; refine ⟨_, rfl, ?_⟩; have n0_ := am_ (blk_below (g := gb218) (o := .cells #[.int .i64 a0_0, .string a0_1, .string a0_2, .slice A0_3 l0_3.length c0_3, .slice A0_4 l0_4.length c0_4] 26 (0, 0)) (blk_ BK218.out) hb); have n1_ := am_ (blk_below (g := gb219) (o := .cells #[.string a1_0, .string a1_1, .string a1_2, .slice A1_3 l1_3.length c1_3, .slice A1_4 l1_4.length c1_4] 28 (0, 0)) (blk_ BK219.out) hb); have n2_ := am_ (below_step (bel_ HB.out) hb); clear BK218 BK219 HB; have BK218 := n0_; have BK219 := n1_; have HB := n2_; clear n0_ n1_ n2_; (try clear hb); (try clear hb2); (try clear hk); (try clear hi); have hcz29_0 : w28.cell? ⟨gb218, 0, none⟩ = some (.int .i64 a0_0) := (blk_cell BK218.out 0).trans rfl; have hcz29_1 : w28.cell? ⟨gb218, 1, none⟩ = some (.string a0_1) := (blk_cell BK218.out 1).trans rfl; have hcz29_2 : w28.cell? ⟨gb218, 2, none⟩ = some (.string a0_2) := (blk_cell BK218.out 2).trans rfl; have hcz29_3 : w28.cell? ⟨gb218, 3, none⟩ = some (.slice A0_3 l0_3.length c0_3) := (blk_cell BK218.out 3).trans rfl; have hcz29_4 : w28.cell? ⟨gb218, 4, none⟩ = some (.slice A0_4 l0_4.length c0_4) := (blk_cell BK218.out 4).trans rfl; have hfz29_0 := blk_frozen BK218.out 0; have hfz29_1 := blk_frozen BK218.out 1; have hfz29_2 := blk_frozen BK218.out 2; have hfz29_3 := blk_frozen BK218.out 3; have hfz29_4 := blk_frozen BK218.out 4; have hcz30_0 : w28.cell? ⟨gb219, 0, none⟩ = some (.string a1_0) := (blk_cell BK219.out 0).trans rfl; have hcz30_1 : w28.cell? ⟨gb219, 1, none⟩ = some (.string a1_1) := (blk_cell BK219.out 1).trans rfl; have hcz30_2 : w28.cell? ⟨gb219, 2, none⟩ = some (.string a1_2) := (blk_cell BK219.out 2).trans rfl; have hcz30_3 : w28.cell? ⟨gb219, 3, none⟩ = some (.slice A1_3 l1_3.length c1_3) := (blk_cell BK219.out 3).trans rfl; have hcz30_4 : w28.cell? ⟨gb219, 4, none⟩ = some (.slice A1_4 l1_4.length c1_4) := (blk_cell BK219.out 4).trans rfl; have hfz30_0 := blk_frozen BK219.out 0; have hfz30_1 := blk_frozen BK219.out 1; have hfz30_2 := blk_frozen BK219.out 2; have hfz30_3 := blk_frozen BK219.out 3; have hfz30_4 := blk_frozen BK219.out 4) | (go_at_call 40; (with_reducible refine (tollref03_Holds.calls k a0_0 a0_1 a1_2 false _ A8.out).mono ?_); rintro e w31 ⟨rfl, hb⟩; have n0_ := am_ (blk_below (g := gb218) (o := .cells #[.int .i64 a0_0, .string a0_1, .string a0_2, .slice A0_3 l0_3.length c0_3, .slice A0_4 l0_4.length c0_4] 26 (0, 0)) (blk_ BK218.out) hb); have n1_ := am_ (blk_below (g := gb219) (o := .cells #[.string a1_0, .string a1_1, .string a1_2, .slice A1_3 l1_3.length c1_3, .slice A1_4 l1_4.length c1_4] 28 (0, 0)) (blk_ BK219.out) hb); have n2_ := am_ (below_step (bel_ HB.out) hb); clear BK218 BK219 HB; have BK218 := n0_; have BK219 := n1_; have HB := n2_; clear n0_ n1_ n2_; (try clear hb); (try clear hb2); (try clear hk); (try clear hi)))
    go_meet
    case rel => exact ⟨_, (true), sd_, H', ⟨by first | omega | exact Nat.le_refl _⟩, ⟨by (with_reducible repeat (first | refine blk_drewN ?_ _ | refine blk_drew ?_ | refine blk_alloc ?_ _)); exact BK218.out⟩, ⟨by (with_reducible repeat (first | refine blk_drewN ?_ _ | refine blk_drew ?_ | refine blk_alloc ?_ _)); exact BK219.out⟩, ⟨bel_ HB.out⟩⟩
  ·replace c7 := Bool.eq_false_iff.mpr c7
   subst c7
   have H1 : (tollref06_Holds.j0 k true a0_0 a0_1 a0_2 l0_3 l0_4 a1_0 a1_1 a1_2 l1_3 l1_4) = some r := by rw [if_neg (show ¬ (false = true) by decide)] at H; exact H
   clear H
   have H := H1
   clear H1
   have H' := Aside0.mk H
   clear H
   have hnb32 := NB218_219.out
   have hnc32 := NB219_218.out
   have hcz33_0 : w5.cell? ⟨gb218, 0, none⟩ = some (.int .i64 a0_0) := (blk_cell BK218.out 0).trans rfl
   have hcz33_1 : w5.cell? ⟨gb218, 1, none⟩ = some (.string a0_1) := (blk_cell BK218.out 1).trans rfl
   have hcz33_2 : w5.cell? ⟨gb218, 2, none⟩ = some (.string a0_2) := (blk_cell BK218.out 2).trans rfl
   have hcz33_3 : w5.cell? ⟨gb218, 3, none⟩ = some (.slice A0_3 l0_3.length c0_3) := (blk_cell BK218.out 3).trans rfl
   have hcz33_4 : w5.cell? ⟨gb218, 4, none⟩ = some (.slice A0_4 l0_4.length c0_4) := (blk_cell BK218.out 4).trans rfl
   have hfz33_0 := blk_frozen BK218.out 0
   have hfz33_1 := blk_frozen BK218.out 1
   have hfz33_2 := blk_frozen BK218.out 2
   have hfz33_3 := blk_frozen BK218.out 3
   have hfz33_4 := blk_frozen BK218.out 4
   go_wp2_with (first | ((with_reducible refine gate_callee (f := 13) rfl ?_); refine goesL_ (some 6) rfl rfl Tryd.func13 kr_ rfl #[.agg #[.int .i64 a0_0, .string a0_1, .string a0_2, .slice A0_3 l0_3.length c0_3, .slice A0_4 l0_4.length c0_4]] rfl rl_ ?_; (with_reducible refine (tollref06_May.calls k a0_0 a0_1 a0_2 _ _ l0_3 _ _ l0_4 false _ ?side1 ?side2 ?side3 ?side4 A6.out).mono ?_); (case side1 => exact C_ (Kd.C_below HR0_3.out HB.out)); (case side2 => exact HC0_3.out); (case side3 => exact C_ (Kd.C_below HR0_4.out HB.out)); (case side4 => exact HC0_4.out); rintro e w34 ⟨rfl, hb⟩; refine ⟨_, rfl, ?_⟩; have n0_ := am_ (blk_below (g := gb218) (o := .cells #[.int .i64 a0_0, .string a0_1, .string a0_2, .slice A0_3 l0_3.length c0_3, .slice A0_4 l0_4.length c0_4] 26 (0, 0)) (blk_ BK218.out) hb); have n1_ := am_ (blk_below (g := gb219) (o := .cells #[.string a1_0, .string a1_1, .string a1_2, .slice A1_3 l1_3.length c1_3, .slice A1_4 l1_4.length c1_4] 28 (0, 0)) (blk_ BK219.out) hb); have n2_ := am_ (below_step (bel_ HB.out) hb); clear BK218 BK219 HB; have BK218 := n0_; have BK219 := n1_; have HB := n2_; clear n0_ n1_ n2_; (try clear hb); (try clear hb2); (try clear hk); (try clear hi)))
   go_meet
   case rel => exact ⟨_, (true), sd_, H', ⟨by first | omega | exact Nat.le_refl _⟩, ⟨by (with_reducible repeat (first | refine blk_drewN ?_ _ | refine blk_drew ?_ | refine blk_alloc ?_ _)); exact BK218.out⟩, ⟨by (with_reducible repeat (first | refine blk_drewN ?_ _ | refine blk_drew ?_ | refine blk_alloc ?_ _)); exact BK219.out⟩, ⟨bel_ HB.out⟩⟩
 case rest =>
  clear HC3
  try clear c1
  try clear c2
  try clear p2
  try clear c3
  try clear c7
  try clear c9
  try clear c10
  try clear c10b0
  try clear c10b1
  try clear c10b2
  try clear c11
  try clear c13
  try clear c15
  try clear c18
  try clear c26
  try clear c32
  try clear hcz12_0
  try clear hcz12_1
  try clear hcz12_2
  try clear hcz12_3
  try clear hcz12_4
  try clear hcz14_0
  try clear hcz14_1
  try clear hcz14_2
  try clear hcz14_3
  try clear hcz14_4
  try clear hcz15_0
  try clear hcz15_1
  try clear hcz15_2
  try clear hcz15_3
  try clear hcz15_4
  try clear hcz17_0
  try clear hcz17_1
  try clear hcz17_2
  try clear hcz17_3
  try clear hcz17_4
  try clear hcz19_0
  try clear hcz19_1
  try clear hcz19_2
  try clear hcz19_3
  try clear hcz19_4
  try clear hcz21_0
  try clear hcz21_1
  try clear hcz21_2
  try clear hcz21_3
  try clear hcz21_4
  try clear hcz22_0
  try clear hcz22_1
  try clear hcz22_2
  try clear hcz22_3
  try clear hcz22_4
  try clear hcz24_0
  try clear hcz24_1
  try clear hcz24_2
  try clear hcz24_3
  try clear hcz24_4
  try clear hcz25_0
  try clear hcz25_1
  try clear hcz25_2
  try clear hcz25_3
  try clear hcz25_4
  try clear hcz27_0
  try clear hcz27_1
  try clear hcz27_2
  try clear hcz27_3
  try clear hcz27_4
  try clear hcz29_0
  try clear hcz29_1
  try clear hcz29_2
  try clear hcz29_3
  try clear hcz29_4
  try clear hcz30_0
  try clear hcz30_1
  try clear hcz30_2
  try clear hcz30_3
  try clear hcz30_4
  try clear hcz33_0
  try clear hcz33_1
  try clear hcz33_2
  try clear hcz33_3
  try clear hcz33_4
  try clear hfz12_0
  try clear hfz12_1
  try clear hfz12_2
  try clear hfz12_3
  try clear hfz12_4
  try clear hfz14_0
  try clear hfz14_1
  try clear hfz14_2
  try clear hfz14_3
  try clear hfz14_4
  try clear hfz15_0
  try clear hfz15_1
  try clear hfz15_2
  try clear hfz15_3
  try clear hfz15_4
  try clear hfz17_0
  try clear hfz17_1
  try clear hfz17_2
  try clear hfz17_3
  try clear hfz17_4
  try clear hfz19_0
  try clear hfz19_1
  try clear hfz19_2
  try clear hfz19_3
  try clear hfz19_4
  try clear hfz21_0
  try clear hfz21_1
  try clear hfz21_2
  try clear hfz21_3
  try clear hfz21_4
  try clear hfz22_0
  try clear hfz22_1
  try clear hfz22_2
  try clear hfz22_3
  try clear hfz22_4
  try clear hfz24_0
  try clear hfz24_1
  try clear hfz24_2
  try clear hfz24_3
  try clear hfz24_4
  try clear hfz25_0
  try clear hfz25_1
  try clear hfz25_2
  try clear hfz25_3
  try clear hfz25_4
  try clear hfz27_0
  try clear hfz27_1
  try clear hfz27_2
  try clear hfz27_3
  try clear hfz27_4
  try clear hfz29_0
  try clear hfz29_1
  try clear hfz29_2
  try clear hfz29_3
  try clear hfz29_4
  try clear hfz30_0
  try clear hfz30_1
  try clear hfz30_2
  try clear hfz30_3
  try clear hfz30_4
  try clear hfz33_0
  try clear hfz33_1
  try clear hfz33_2
  try clear hfz33_3
  try clear hfz33_4
  obtain ⟨kq, x27_2, rfl, HA, HJ2, BK218, BK219, HB⟩ := hcut
  cases kq with
  | zero => exact absurd HA.out (by simp [tollref06_Holds.j0])
  | succ kj2 =>
   have H := HA.out
   clear HA
   simp only [tollref06_Holds.j0] at H
   by_cases c35 : x27_2 = true
   ·subst c35
    have H1 : (some false) = some r := by rw [if_pos rfl] at H; exact H
    clear H
    have H := H1
    clear H1
    obtain rfl := Option.some.inj H
    go_wp2
    go_ret
    exact ⟨fi_, bel_ HB.out⟩
   ·replace c35 := Bool.eq_false_iff.mpr c35
    subst c35
    have H1 : ((tollref05_Holds.f kj2 l0_3 l1_4 true).bind fun t222 => (if t222 = true then ((tollref05_Holds.f kj2 l0_4 l1_3 false).bind fun t223 => (some t223)) else (some false))) = some r := by rw [if_neg (show ¬ (false = true) by decide)] at H; exact H
    clear H
    have H := H1
    clear H1
    replace H := Option.bind_eq_some_iff.mp H
    obtain ⟨t222, A360, H⟩ := H
    replace H : (if t222 = true then ((tollref05_Holds.f kj2 l0_4 l1_3 false).bind fun t223 => (some t223)) else (some false)) = some r := H
    have A36 := Aside0.mk A360
    clear A360
    by_cases c37 : t222 = true
    ·subst c37
     have H1 : ((tollref05_Holds.f kj2 l0_4 l1_3 false).bind fun t223 => (some t223)) = some r := by rw [if_pos rfl] at H; exact H
     clear H
     have H := H1
     clear H1
     replace H := Option.bind_eq_some_iff.mp H
     obtain ⟨t223, A380, H⟩ := H
     replace H : (some t223) = some r := H
     have A38 := Aside0.mk A380
     clear A380
     obtain rfl := Option.some.inj H
     have hnb39 := NB218_219.out
     have hnc39 := NB219_218.out
     have hcz40_0 : wc.cell? ⟨gb218, 0, none⟩ = some (.int .i64 a0_0) := (blk_cell BK218.out 0).trans rfl
     have hcz40_1 : wc.cell? ⟨gb218, 1, none⟩ = some (.string a0_1) := (blk_cell BK218.out 1).trans rfl
     have hcz40_2 : wc.cell? ⟨gb218, 2, none⟩ = some (.string a0_2) := (blk_cell BK218.out 2).trans rfl
     have hcz40_3 : wc.cell? ⟨gb218, 3, none⟩ = some (.slice A0_3 l0_3.length c0_3) := (blk_cell BK218.out 3).trans rfl
     have hcz40_4 : wc.cell? ⟨gb218, 4, none⟩ = some (.slice A0_4 l0_4.length c0_4) := (blk_cell BK218.out 4).trans rfl
     have hfz40_0 := blk_frozen BK218.out 0
     have hfz40_1 := blk_frozen BK218.out 1
     have hfz40_2 := blk_frozen BK218.out 2
     have hfz40_3 := blk_frozen BK218.out 3
     have hfz40_4 := blk_frozen BK218.out 4
     have hcz41_0 : wc.cell? ⟨gb219, 0, none⟩ = some (.string a1_0) := (blk_cell BK219.out 0).trans rfl
     have hcz41_1 : wc.cell? ⟨gb219, 1, none⟩ = some (.string a1_1) := (blk_cell BK219.out 1).trans rfl
     have hcz41_2 : wc.cell? ⟨gb219, 2, none⟩ = some (.string a1_2) := (blk_cell BK219.out 2).trans rfl
     have hcz41_3 : wc.cell? ⟨gb219, 3, none⟩ = some (.slice A1_3 l1_3.length c1_3) := (blk_cell BK219.out 3).trans rfl
     have hcz41_4 : wc.cell? ⟨gb219, 4, none⟩ = some (.slice A1_4 l1_4.length c1_4) := (blk_cell BK219.out 4).trans rfl
     have hfz41_0 := blk_frozen BK219.out 0
     have hfz41_1 := blk_frozen BK219.out 1
     have hfz41_2 := blk_frozen BK219.out 2
     have hfz41_3 := blk_frozen BK219.out 3
     have hfz41_4 := blk_frozen BK219.out 4
     go_wp2_with (first | ((with_reducible refine gate_callee (f := 41) rfl ?_); refine goesL_ (some 32) rfl rfl Tryd.func41 kr_ rfl #[.slice A0_3 l0_3.length c0_3, .slice A1_4 l1_4.length c1_4, .bool true] rfl rl_ ?_; (with_reducible refine (tollref05_Holds.calls kj2 _ _ l0_3 _ _ l1_4 true true _ ?side1 ?side2 ?side3 ?side4 A36.out).mono ?_); (case side1 => exact C_ (Kd.C_below HR0_3.out HB.out)); (case side2 => exact HC0_3.out); (case side3 => exact C_ (Kd.C_below HR1_4.out HB.out)); (case side4 => exact HC1_4.out); rintro e w42 ⟨rfl, hb⟩; refine ⟨_, rfl, ?_⟩; have n0_ := am_ (blk_below (g := gb218) (o := .cells #[.int .i64 a0_0, .string a0_1, .string a0_2, .slice A0_3 l0_3.length c0_3, .slice A0_4 l0_4.length c0_4] 26 (0, 0)) (blk_ BK218.out) hb); have n1_ := am_ (blk_below (g := gb219) (o := .cells #[.string a1_0, .string a1_1, .string a1_2, .slice A1_3 l1_3.length c1_3, .slice A1_4 l1_4.length c1_4] 28 (0, 0)) (blk_ BK219.out) hb); have n2_ := am_ (below_step (bel_ HB.out) hb); clear BK218 BK219 HB; have BK218 := n0_; have BK219 := n1_; have HB := n2_; clear n0_ n1_ n2_; (try clear hb); (try clear hb2); (try clear hk); (try clear hi); have hcz43_0 : w42.cell? ⟨gb218, 0, none⟩ = some (.int .i64 a0_0) := (blk_cell BK218.out 0).trans rfl; have hcz43_1 : w42.cell? ⟨gb218, 1, none⟩ = some (.string a0_1) := (blk_cell BK218.out 1).trans rfl; have hcz43_2 : w42.cell? ⟨gb218, 2, none⟩ = some (.string a0_2) := (blk_cell BK218.out 2).trans rfl; have hcz43_3 : w42.cell? ⟨gb218, 3, none⟩ = some (.slice A0_3 l0_3.length c0_3) := (blk_cell BK218.out 3).trans rfl; have hcz43_4 : w42.cell? ⟨gb218, 4, none⟩ = some (.slice A0_4 l0_4.length c0_4) := (blk_cell BK218.out 4).trans rfl; have hfz43_0 := blk_frozen BK218.out 0; have hfz43_1 := blk_frozen BK218.out 1; have hfz43_2 := blk_frozen BK218.out 2; have hfz43_3 := blk_frozen BK218.out 3; have hfz43_4 := blk_frozen BK218.out 4; have hcz44_0 : w42.cell? ⟨gb219, 0, none⟩ = some (.string a1_0) := (blk_cell BK219.out 0).trans rfl; have hcz44_1 : w42.cell? ⟨gb219, 1, none⟩ = some (.string a1_1) := (blk_cell BK219.out 1).trans rfl; have hcz44_2 : w42.cell? ⟨gb219, 2, none⟩ = some (.string a1_2) := (blk_cell BK219.out 2).trans rfl; have hcz44_3 : w42.cell? ⟨gb219, 3, none⟩ = some (.slice A1_3 l1_3.length c1_3) := (blk_cell BK219.out 3).trans rfl; have hcz44_4 : w42.cell? ⟨gb219, 4, none⟩ = some (.slice A1_4 l1_4.length c1_4) := (blk_cell BK219.out 4).trans rfl; have hfz44_0 := blk_frozen BK219.out 0; have hfz44_1 := blk_frozen BK219.out 1; have hfz44_2 := blk_frozen BK219.out 2; have hfz44_3 := blk_frozen BK219.out 3; have hfz44_4 := blk_frozen BK219.out 4) | (go_at_call 41; (with_reducible refine (tollref05_Holds.calls kj2 _ _ l0_4 _ _ l1_3 false t223 _ ?side1 ?side2 ?side3 ?side4 A38.out).mono ?_); (case side1 => exact C_ (Kd.C_below HR0_4.out HB.out)); (case side2 => exact HC0_4.out); (case side3 => exact C_ (Kd.C_below HR1_3.out HB.out)); (case side4 => exact HC1_3.out); rintro e w45 ⟨rfl, hb⟩; have n0_ := am_ (blk_below (g := gb218) (o := .cells #[.int .i64 a0_0, .string a0_1, .string a0_2, .slice A0_3 l0_3.length c0_3, .slice A0_4 l0_4.length c0_4] 26 (0, 0)) (blk_ BK218.out) hb); have n1_ := am_ (blk_below (g := gb219) (o := .cells #[.string a1_0, .string a1_1, .string a1_2, .slice A1_3 l1_3.length c1_3, .slice A1_4 l1_4.length c1_4] 28 (0, 0)) (blk_ BK219.out) hb); have n2_ := am_ (below_step (bel_ HB.out) hb); clear BK218 BK219 HB; have BK218 := n0_; have BK219 := n1_; have HB := n2_; clear n0_ n1_ n2_; (try clear hb); (try clear hb2); (try clear hk); (try clear hi)))
     go_ret
     exact ⟨fi_, bel_ HB.out⟩
    ·replace c37 := Bool.eq_false_iff.mpr c37
     subst c37
     have H1 : (some false) = some r := by rw [if_neg (show ¬ (false = true) by decide)] at H; exact H
     clear H
     have H := H1
     clear H1
     obtain rfl := Option.some.inj H
     have hnb46 := NB218_219.out
     have hnc46 := NB219_218.out
     have hcz47_0 : wc.cell? ⟨gb218, 0, none⟩ = some (.int .i64 a0_0) := (blk_cell BK218.out 0).trans rfl
     have hcz47_1 : wc.cell? ⟨gb218, 1, none⟩ = some (.string a0_1) := (blk_cell BK218.out 1).trans rfl
     have hcz47_2 : wc.cell? ⟨gb218, 2, none⟩ = some (.string a0_2) := (blk_cell BK218.out 2).trans rfl
     have hcz47_3 : wc.cell? ⟨gb218, 3, none⟩ = some (.slice A0_3 l0_3.length c0_3) := (blk_cell BK218.out 3).trans rfl
     have hcz47_4 : wc.cell? ⟨gb218, 4, none⟩ = some (.slice A0_4 l0_4.length c0_4) := (blk_cell BK218.out 4).trans rfl
     have hfz47_0 := blk_frozen BK218.out 0
     have hfz47_1 := blk_frozen BK218.out 1
     have hfz47_2 := blk_frozen BK218.out 2
     have hfz47_3 := blk_frozen BK218.out 3
     have hfz47_4 := blk_frozen BK218.out 4
     have hcz48_0 : wc.cell? ⟨gb219, 0, none⟩ = some (.string a1_0) := (blk_cell BK219.out 0).trans rfl
     have hcz48_1 : wc.cell? ⟨gb219, 1, none⟩ = some (.string a1_1) := (blk_cell BK219.out 1).trans rfl
     have hcz48_2 : wc.cell? ⟨gb219, 2, none⟩ = some (.string a1_2) := (blk_cell BK219.out 2).trans rfl
     have hcz48_3 : wc.cell? ⟨gb219, 3, none⟩ = some (.slice A1_3 l1_3.length c1_3) := (blk_cell BK219.out 3).trans rfl
     have hcz48_4 : wc.cell? ⟨gb219, 4, none⟩ = some (.slice A1_4 l1_4.length c1_4) := (blk_cell BK219.out 4).trans rfl
     have hfz48_0 := blk_frozen BK219.out 0
     have hfz48_1 := blk_frozen BK219.out 1
     have hfz48_2 := blk_frozen BK219.out 2
     have hfz48_3 := blk_frozen BK219.out 3
     have hfz48_4 := blk_frozen BK219.out 4
     go_wp2_with (first | ((with_reducible refine gate_callee (f := 41) rfl ?_); refine goesL_ (some 32) rfl rfl Tryd.func41 kr_ rfl #[.slice A0_3 l0_3.length c0_3, .slice A1_4 l1_4.length c1_4, .bool true] rfl rl_ ?_; (with_reducible refine (tollref05_Holds.calls kj2 _ _ l0_3 _ _ l1_4 true false _ ?side1 ?side2 ?side3 ?side4 A36.out).mono ?_); (case side1 => exact C_ (Kd.C_below HR0_3.out HB.out)); (case side2 => exact HC0_3.out); (case side3 => exact C_ (Kd.C_below HR1_4.out HB.out)); (case side4 => exact HC1_4.out); rintro e w49 ⟨rfl, hb⟩; refine ⟨_, rfl, ?_⟩; have n0_ := am_ (blk_below (g := gb218) (o := .cells #[.int .i64 a0_0, .string a0_1, .string a0_2, .slice A0_3 l0_3.length c0_3, .slice A0_4 l0_4.length c0_4] 26 (0, 0)) (blk_ BK218.out) hb); have n1_ := am_ (blk_below (g := gb219) (o := .cells #[.string a1_0, .string a1_1, .string a1_2, .slice A1_3 l1_3.length c1_3, .slice A1_4 l1_4.length c1_4] 28 (0, 0)) (blk_ BK219.out) hb); have n2_ := am_ (below_step (bel_ HB.out) hb); clear BK218 BK219 HB; have BK218 := n0_; have BK219 := n1_; have HB := n2_; clear n0_ n1_ n2_; (try clear hb); (try clear hb2); (try clear hk); (try clear hi)))
     go_ret
     exact ⟨fi_, bel_ HB.out⟩

end Go.Proofs.YtompldnifiieaaaDoor.P
