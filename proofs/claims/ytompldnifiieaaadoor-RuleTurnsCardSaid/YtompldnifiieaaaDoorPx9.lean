-- written by wip/tool/hprint.py of this repo: the kit's print, with contracts by hand joined; Lean checks it.
import Derived.Test.YtompldnifiieaaaDoorPx0
import Derived.Test.YtompldnifiieaaaDoorPx1
namespace Go.Proofs.YtompldnifiieaaaDoor.P
open Go.RowKit Go.Proofs.YtompldnifiieaaaDoorW.PrintWords Go.Proofs.YtompldnifiieaaaDoorW.PrintLast Go.Proofs.YtompldnifiieaaaDoorW.PrintMore
attribute [local go_sem] max2_int min2_int max_two min_two max_three min_three max_four min_four   -- for this text's walks alone
set_option linter.unusedVariables false
set_option linter.unusedSimpArgs false

/-! ### tolllaw06_some: function 20 -/
noncomputable def tolllaw06_some.l0 : Nat → List (S26) → List (S26) → Int → Option ((List (S26)))
 | 0, _, _, _ => none
 | k + 1, x0, x3, x4 => if x4 < (x0.length : Int) then (if x4 < 10 then (if 0 ≤ x4 then ((tolllaw06_Few.f k ((rd_T26 x0 x4).f0.f0) ((rd_T26 x0 x4).f0.f1) ((rd_T26 x0 x4).f1) ((rd_T26 x0 x4).f2) ((rd_T26 x0 x4).f3)).bind fun bt321 => (if x3.length < 1599289640401 then (tolllaw06_some.l0 k x0 (x3 ++ [(⟨(⟨bt321.1, bt321.2.1⟩ : S23), bt321.2.2.1, bt321.2.2.2.1, bt321.2.2.2.2⟩ : S26)]) (wrap64 (x4 + 1))) else (none))) else (none)) else (some x3)) else (some x3)
noncomputable def tolllaw06_some.f (k : Nat) (l0 : List (S26)) : Option ((List (S26))) := tolllaw06_some.l0 k l0 ([] : List (S26)) 0
theorem tolllaw06_some.mono_l : ∀ k, (∀ y0 y1 y2, LeO (tolllaw06_some.l0 k y0 y1 y2) (tolllaw06_some.l0 (k + 1) y0 y1 y2))
 | 0 => fun _ _ _ r h => by simp [tolllaw06_some.l0] at h
 | k + 1 => by
  have ih0 := tolllaw06_some.mono_l k
  ·intro y0 y1 y2
   unfold tolllaw06_some.l0
   repeat' first
   | (with_reducible exact ih0 _ _ _)
   | (with_reducible exact tolllaw06_Few.mono _ _ _ _ _ _)
   | (with_reducible exact LeO.refl _)
   | (with_reducible exact LeO.none _)
   | (with_reducible refine LeO.ite ?_ ?_)
   | (with_reducible refine LeO.bind ?_ (fun _ => ?_))
   | exact ih0 _ _ _
   | exact tolllaw06_Few.mono _ _ _ _ _ _
   | exact LeO.none _
   | refine LeO.ite ?_ ?_
   | refine LeO.bind ?_ (fun _ => ?_)
theorem tolllaw06_some.mono : ∀ a0 k, LeO (tolllaw06_some.f k a0) (tolllaw06_some.f (k + 1) a0) := by
 intro a0 k
 have ih0 := tolllaw06_some.mono_l k
 unfold tolllaw06_some.f
 repeat' first
   | (with_reducible exact ih0 _ _ _)
   | (with_reducible exact tolllaw06_Few.mono _ _ _ _ _ _)
   | (with_reducible exact LeO.refl _)
   | (with_reducible exact LeO.none _)
   | (with_reducible refine LeO.ite ?_ ?_)
   | (with_reducible refine LeO.bind ?_ (fun _ => ?_))
   | exact ih0 _ _ _
   | exact tolllaw06_Few.mono _ _ _ _ _ _
   | exact LeO.none _
   | refine LeO.ite ?_ ?_
   | refine LeO.bind ?_ (fun _ => ?_)
set_option maxHeartbeats 8000000 in
set_option maxRecDepth 100000 in
theorem tolllaw06_some.calls (k : Nat) (A0 : Option Addr) (c0 : Nat) (l0 : List (S26)) (r : List (S26)) (w : World) (hr0 : Kd.C k26 w A0 l0.length l0) (hc0 : l0.length ≤ c0) (h : tolllaw06_some.f k l0 = some r) :
  Calls Tryd.prog 20 #[.slice A0 l0.length c0] w fun e w' => ∃ v0_ : Value, e = .returned (v0_) ∧ Kd.S k26 26 w' w.heap.size (fun _ => True) v0_ r ∧ Below w.heap.size w w' := by
 have hu26 := Tryd.underlying26
 have HR0 := Aside0.mk hr0
 have HC0 := Aside0.mk hc0
 clear hr0 hc0
 have HB := am_ (Below.refl w.heap.size w)
 have H : (tolllaw06_some.l0 k l0 ([] : List (S26)) 0) = some r := h
 clear h
 have H' := Aside0.mk H
 clear H
 go_enter Tryd.func20, Tryd.ntmps20
 go_wp2
 go_loopg [3, 4] k (fun kq v3 v4 w' => ∃ (x3_1 : List (S26)) (x4_1 : Int), v4 = .int .i64 x4_1 ∧ Aside0 (tolllaw06_some.l0 kq l0 x3_1 x4_1 = some r) ∧ Aside0 (kq ≤ k) ∧ Aside0 (Kd.S k26 26 w' w.heap.size (fun _ => True) v3 x3_1) ∧ Aside0 (Below w.heap.size w w'))
 case atStart => exact ⟨(([] : List (S26))), (0), sd_, H', ⟨Nat.le_refl _⟩, ⟨by first | exact Kd.S_nil _ _ _ _ _ | exact Kd.N_nil _ _ _ _ _ | exact Kd.V_nil _ _ _ _ _ | exact Kd.Q_nil _ _ _ _ _ | exact Kd.R_nil _ _ _ _ _⟩, ⟨bel_ HB.out⟩⟩
 case round =>
  clear H'
  obtain ⟨x3_1, x4_1, rfl, HA, HK1, HO_3, HB⟩ := hrel
  cases gk with
  | zero => exact absurd HA.out (by simp [tolllaw06_some.l0])
  | succ k1 =>
   have H := HA.out
   clear HA
   simp only [tolllaw06_some.l0] at H
   by_cases c2 : x4_1 < (l0.length : Int)
   ·rw [if_pos c2] at H
    have c2b0 : decide (x4_1 < (l0.length : Int)) = true := decide_eq_true c2
    clear c2
    by_cases c3 : x4_1 < 10
    ·rw [if_pos c3] at H
     have c3b0 : decide (x4_1 < 10) = true := decide_eq_true c3
     clear c3
     by_cases c4 : 0 ≤ x4_1
     ·rw [if_pos c4] at H
      have c4b0 : decide (0 ≤ x4_1) = true := decide_eq_true c4
      clear c4
      replace H := Option.bind_eq_some_iff.mp H
      obtain ⟨⟨t321, t322, t323, t324, t327⟩, A50, H⟩ := H
      replace H : (if x3_1.length < 1599289640401 then (tolllaw06_some.l0 k1 l0 (x3_1 ++ [(⟨(⟨t321, t322⟩ : S23), t323, t324, t327⟩ : S26)]) (wrap64 (x4_1 + 1))) else (none)) = some r := H
      have A5 := Aside0.mk A50
      clear A50
      by_cases c6 : x3_1.length < 1599289640401
      ·rw [if_pos c6] at H
       have LMc6 := Aside0.mk c6
       clear c6
       obtain ⟨y330, hy330⟩ : ∃ y_ : List (S26), y_ = (x3_1 ++ [(⟨(⟨t321, t322⟩ : S23), t323, t324, t327⟩ : S26)]) := ⟨_, rfl⟩
       replace H : (tolllaw06_some.l0 k1 l0 y330 (wrap64 (x4_1 + 1))) = some r := by first | (rw [hy330]; with_reducible exact H) | (have H2_ := (Option.bind_some _ _).symm.trans H; rw [hy330]; with_reducible exact H2_) | (have H2_ := (Option.bind_some _ _).symm.trans H; with_reducible exact H2_) | with_reducible exact H | (rw [hy330]; exact H) | exact H
       have Ny330 := Aside0.mk hy330
       clear hy330
       have H' := Aside0.mk H
       clear H
       have p320 : 0 ≤ (x4_1 : Int) := of_decide_eq_true as_
       have q320 : x4_1 < (l0.length : Int) := of_decide_eq_true as_
       obtain ⟨ad320, A320_3, c320_3, A320_4, c320_4, e320, hx320_0, hx320_1, hx320_2, hx320_3, hx320_4, hl320_3, hi320_3, hl320_4, hi320_4⟩ := at_T26 HR0.out x4_1 p320 q320
       cases e320
       replace hx320_0 := (HB.out.cell (World.block_lt_of_cell? w _ hx320_0)).trans hx320_0
       replace hx320_1 := (HB.out.cell (World.block_lt_of_cell? w _ hx320_1)).trans hx320_1
       replace hx320_2 := (HB.out.cell (World.block_lt_of_cell? w _ hx320_2)).trans hx320_2
       replace hx320_3 := (HB.out.cell (World.block_lt_of_cell? w _ hx320_3)).trans hx320_3
       replace hx320_4 := (HB.out.cell (World.block_lt_of_cell? w _ hx320_4)).trans hx320_4
       have HR320_3 := Aside0.mk hi320_3
       have HC320_3 := Aside0.mk hl320_3
       clear hi320_3 hl320_3
       have HR320_4 := Aside0.mk hi320_4
       have HC320_4 := Aside0.mk hl320_4
       clear hi320_4 hl320_4
       replace p320 := eq_true p320
       replace q320 := eq_true q320
       go_wp2_with (first | ((with_reducible refine gate_callee (f := 9) rfl ?_); refine goesL_ (some 20) rfl rfl Tryd.func9 kr_ rfl #[.agg #[.int .i64 ((rd_T26 l0 x4_1).f0.f0), .string ((rd_T26 l0 x4_1).f0.f1), .string ((rd_T26 l0 x4_1).f1), .slice A320_3 ((rd_T26 l0 x4_1).f2).length c320_3, .slice A320_4 ((rd_T26 l0 x4_1).f3).length c320_4]] rfl rl_ ?_; (with_reducible refine (tolllaw06_Few.calls k1 ((rd_T26 l0 x4_1).f0.f0) ((rd_T26 l0 x4_1).f0.f1) ((rd_T26 l0 x4_1).f1) _ _ ((rd_T26 l0 x4_1).f2) _ _ ((rd_T26 l0 x4_1).f3) t321 t322 t323 t324 t327 _ ?side1 ?side2 ?side3 ?side4 A5.out).mono ?_); (case side1 => exact C_ (Kd.C_below HR320_3.out HB.out)); (case side2 => exact HC320_3.out); (case side3 => exact C_ (Kd.C_below HR320_4.out HB.out)); (case side4 => exact HC320_4.out); rintro e w7 ⟨v325, v328, rfl, ho0, ho1, hb⟩; refine ⟨_, rfl, ?_⟩; have n0_ := am_ (Kd.S_mono (Kd.S_told (Kd.S_told (Kd.S_old (by (with_reducible repeat (first | apply Kd.S_alloc | apply Kd.S_drewN | apply Kd.S_drew)); exact HO_3.out) hb) (Kd.R_base ho0)) (Kd.R_base ho1)) (fun _ h_ => h_.1)); have n1_ := am_ (Kd.R_lower ho0 (below_size (bel_ HB.out))); have n2_ := am_ (Kd.R_lower ho1 (below_size (bel_ HB.out))); have n3_ := am_ (below_step (bel_ HB.out) hb); clear HO_3 HB; have HO_3 := n0_; have HO326 := n1_; have HO329 := n2_; have HB := n3_; clear n0_ n1_ n2_ n3_; (try clear hb); (try clear hb2); (try clear hk); (try clear hi); (try clear ho0); (try clear ho1); obtain ⟨Ao9, co9, eo9⟩ := Kd.R_slice HO326.out; subst eo9; obtain ⟨Ao10, co10, eo10⟩ := Kd.R_slice HO329.out; subst eo10) | ((with_reducible refine gate_builtin (b := .append) (xs := #[.tmp 15, .tmp 21]) rfl ?_); at_builtin; refine Kd.S_append k26 (w0 := w) w.heap.size rfl (.tmp 15) (.tmp 21) 39 26 (.agg #[(.int .i64 0), (.string ⟨#[]⟩), (.string ⟨#[]⟩), (.slice none 0 0), (.slice none 0 0)]) 88 rfl Tryd.underlying39 info26 rfl (by decide) (by omega) u3 x3_1 (⟨(⟨t321, t322⟩ : S23), t323, t324, t327⟩ : S26) [.int .i64 t321, .string t322, .string t323, .slice Ao9 t324.length co9, .slice Ao10 t327.length co10] (fun _ => True) (fun k_ => some k_ = (.slice Ao9 t324.length co9 : Value).ownBlock ∨ some k_ = (.slice Ao10 t327.length co10 : Value).ownBlock) rfl rfl ?aP (fun k_ hk_ => hk_.elim (fun h_ => ((Kd.R_mono (ok' := fun k_ => ((fun _ => True)) k_ ∧ some k_ ≠ (u3 : Value).ownBlock) (Kd.R_apart' (HO326.out) (Kd.S_typed HO_3.out) (by decide)) (fun k_ hk => ⟨trivial, hk.2⟩))).1 k_ h_.symm) (fun h_ => ((Kd.R_mono (ok' := fun k_ => ((fun _ => True)) k_ ∧ some k_ ≠ (u3 : Value).ownBlock) (Kd.R_apart' (HO329.out) (Kd.S_typed HO_3.out) (by decide)) (fun k_ hk => ⟨trivial, hk.2⟩))).1 k_ h_.symm)) ?aF ?aO ?aB ?aS ?aL ?_; (case aP => exact k26_mkM _ _ _ (⟨(⟨t321, t322⟩ : S23), t323, t324, t327⟩ : S26) (Kd.R_mono (Kd.R_tight rfl (Kd.R_mono (ok' := fun k_ => ((fun _ => True)) k_ ∧ some k_ ≠ (u3 : Value).ownBlock) (Kd.R_apart' (HO326.out) (Kd.S_typed HO_3.out) (by decide)) (fun k_ hk => ⟨trivial, hk.2⟩))) (fun _ h_ => Or.inl h_)) (Kd.R_mono (Kd.R_tight rfl (Kd.R_mono (ok' := fun k_ => ((fun _ => True)) k_ ∧ some k_ ≠ (u3 : Value).ownBlock) (Kd.R_apart' (HO329.out) (Kd.S_typed HO_3.out) (by decide)) (fun k_ hk => ⟨trivial, hk.2⟩))) (fun _ h_ => Or.inr (h_)))); (case aB => exact (bel_ HB.out)); (case aF => exact (fun _ _ => trivial)); (case aO => exact (by (with_reducible repeat (first | apply Kd.S_alloc | apply Kd.S_drewN | apply Kd.S_drew)); exact Kd.S_mono HO_3.out (fun k_ hk => ⟨trivial, fun e_ => e_.elim (fun h_ => hk.1.2 h_) (fun h_ => hk.2 h_)⟩))); (case aS => exact (below_size (bel_ HB.out))); (case aL => have := LMc6.out; omega); intro v331 w8 ho hb hg hat; rw [← Ny330.out] at ho; have n0_ := am_ (hb); have n1_ := am_ (ho); clear HB HO_3 HO326 HO329; have HB := n0_; have HO332 := n1_; clear n0_ n1_ ho hb hg hat))
       go_roundg k1
       case measure => have := HK1.out; omega
       case rel => exact ⟨(y330), (wrap64 (x4_1 + 1)), sd_, H', ⟨by have := HK1.out; omega⟩, ⟨by (with_reducible repeat (first | apply Kd.S_alloc | apply Kd.S_drewN | apply Kd.S_drew)); exact HO332.out⟩, ⟨bel_ HB.out⟩⟩
      ·rw [if_neg c6] at H
       exact absurd H (by simp)
     ·rw [if_neg c4] at H
      exact absurd H (by simp)
    ·rw [if_neg c3] at H
     have c3b0 : decide (x4_1 < 10) = false := decide_eq_false c3
     clear c3
     obtain rfl := Option.some.inj H
     go_wp2
     go_ret
     exact ⟨_, by first | rfl | (simp [errW_none, errW_some] <;> rfl) | (simp [*, errW_none, errW_some] <;> rfl), by (with_reducible repeat (first | apply Kd.S_alloc | apply Kd.S_drewN | apply Kd.S_drew)); exact HO_3.out, bel_ HB.out⟩
   ·rw [if_neg c2] at H
    have c2b0 : decide (x4_1 < (l0.length : Int)) = false := decide_eq_false c2
    clear c2
    obtain rfl := Option.some.inj H
    go_wp2
    go_ret
    exact ⟨_, by first | rfl | (simp [errW_none, errW_some] <;> rfl) | (simp [*, errW_none, errW_some] <;> rfl), by (with_reducible repeat (first | apply Kd.S_alloc | apply Kd.S_drewN | apply Kd.S_drew)); exact HO_3.out, bel_ HB.out⟩

end Go.Proofs.YtompldnifiieaaaDoor.P
