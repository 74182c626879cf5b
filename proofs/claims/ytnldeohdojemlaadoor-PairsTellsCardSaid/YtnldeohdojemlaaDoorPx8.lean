-- written by wip/tool/hprint.py of this repo: the kit's print, with contracts by hand joined; Lean checks it.
import Derived.Test.YtnldeohdojemlaaDoorPx0
import Derived.Test.YtnldeohdojemlaaDoorPx2
import Derived.Test.YtnldeohdojemlaaDoorPx3
import Derived.Test.YtnldeohdojemlaaDoorPx4
import Derived.Test.YtnldeohdojemlaaDoorPx5
import Derived.Test.YtnldeohdojemlaaDoorPx6
import Derived.Test.YtnldeohdojemlaaDoorPx7
namespace Go.Proofs.YtnldeohdojemlaaDoor.P
open Go.RowKit Go.Proofs.YtnldeohdojemlaaDoorW.PrintWords Go.Proofs.YtnldeohdojemlaaDoorW.PrintLast Go.Proofs.YtnldeohdojemlaaDoorW.PrintMore
attribute [local go_sem] max2_int min2_int max_two min_two max_three min_three max_four min_four   -- for this text's walks alone
set_option linter.unusedVariables false
set_option linter.unusedSimpArgs false

/-! ### tolllaw05_PairsTells: function 3 -/
def tolllaw05_PairsTells.j0 : Nat → List (S35) → ByteArray → ByteArray → List ByteArray → Bool → Option (Bool)
  | 0, _, _, _, _, _ => none
  | k + 1, x0, x1, x2, x7, x47 => if x47 = true then (none) else ((pairs_Token.f k x1).bind fun t186 => ((tollref05_Token.f k x1).bind fun t187 => (if (t186 == t187) = true then ((pairs_Value.f k x1).bind fun t188 => ((tollref05_Value.f k x1).bind fun t189 => (if (t188 == t189) = true then ((pairs_Same.f x1 x2).bind fun t190 => ((tollref05_Same.f k x1 x2).bind fun t191 => (if (t190 == t191) = true then ((pairs_All.f k x0 x1).bind fun t192 => ((tollref01_Same.f k t192 x7).bind fun t195 => (if t195 = true then ((tolllaw05_awake.f k).bind fun t196 => (some t196)) else (none)))) else (none)))) else (none)))) else (none))))
def tolllaw05_PairsTells.f (k : Nat) (l0 : List (S35)) (a1 : ByteArray) (a2 : ByteArray) : Option (Bool) := (tolllaw05_Few.f k l0).bind fun t175 => ((tolllaw01_Few.f a1).bind fun t178 => ((tolllaw01_Few.f a2).bind fun t179 => ((tollref05_All.f k t175 t178).bind fun t180 => ((pairs_Get.f t175 t178).bind fun bt183 => (if (bt183.2 != (decide ((t180.length : Int) > 0))) = true then (tolllaw05_PairsTells.j0 k t175 t178 t179 t180 true) else (if bt183.2 = true then (if 0 < (t180.length : Int) then (if bt183.1.toList = (rdOf ByteArray.empty t180 0).toList then (tolllaw05_PairsTells.j0 k t175 t178 t179 t180 false) else (tolllaw05_PairsTells.j0 k t175 t178 t179 t180 true)) else (none)) else (tolllaw05_PairsTells.j0 k t175 t178 t179 t180 (bt183.1.toList != ([] : List UInt8)))))))))
theorem tolllaw05_PairsTells.mono_l : ∀ k, (∀ y0 y1 y2 y3 y4, LeO (tolllaw05_PairsTells.j0 k y0 y1 y2 y3 y4) (tolllaw05_PairsTells.j0 (k + 1) y0 y1 y2 y3 y4))
  | 0 => fun _ _ _ _ _ r h => by simp [tolllaw05_PairsTells.j0] at h
  | k + 1 => by
    have ih0 := tolllaw05_PairsTells.mono_l k
    · intro y0 y1 y2 y3 y4
      unfold tolllaw05_PairsTells.j0
      repeat' first
      | (with_reducible exact ih0 _ _ _ _ _)
      | (with_reducible exact pairs_All.mono _ _ _)
      | (with_reducible exact pairs_Token.mono _ _)
      | (with_reducible exact pairs_Value.mono _ _)
      | (with_reducible exact tolllaw05_Few.mono _ _)
      | (with_reducible exact tolllaw05_awake.mono _)
      | (with_reducible exact tollref01_Same.mono _ _ _)
      | (with_reducible exact tollref05_All.mono _ _ _)
      | (with_reducible exact tollref05_Same.mono _ _ _)
      | (with_reducible exact tollref05_Token.mono _ _)
      | (with_reducible exact tollref05_Value.mono _ _)
      | (with_reducible exact LeO.refl _)
      | (with_reducible exact LeO.none _)
      | (with_reducible refine LeO.ite ?_ ?_)
      | (with_reducible refine LeO.bind ?_ (fun _ => ?_))
      | exact ih0 _ _ _ _ _
      | exact pairs_All.mono _ _ _
      | exact pairs_Token.mono _ _
      | exact pairs_Value.mono _ _
      | exact tolllaw05_Few.mono _ _
      | exact tolllaw05_awake.mono _
      | exact tollref01_Same.mono _ _ _
      | exact tollref05_All.mono _ _ _
      | exact tollref05_Same.mono _ _ _
      | exact tollref05_Token.mono _ _
      | exact tollref05_Value.mono _ _
      | exact LeO.none _
      | refine LeO.ite ?_ ?_
      | refine LeO.bind ?_ (fun _ => ?_)
theorem tolllaw05_PairsTells.mono : ∀ a0 a1 a2 k, LeO (tolllaw05_PairsTells.f k a0 a1 a2) (tolllaw05_PairsTells.f (k + 1) a0 a1 a2) := by
  intro a0 a1 a2 k
  have ih0 := tolllaw05_PairsTells.mono_l k
  unfold tolllaw05_PairsTells.f
  repeat' first
      | (with_reducible exact ih0 _ _ _ _ _)
      | (with_reducible exact pairs_All.mono _ _ _)
      | (with_reducible exact pairs_Token.mono _ _)
      | (with_reducible exact pairs_Value.mono _ _)
      | (with_reducible exact tolllaw05_Few.mono _ _)
      | (with_reducible exact tolllaw05_awake.mono _)
      | (with_reducible exact tollref01_Same.mono _ _ _)
      | (with_reducible exact tollref05_All.mono _ _ _)
      | (with_reducible exact tollref05_Same.mono _ _ _)
      | (with_reducible exact tollref05_Token.mono _ _)
      | (with_reducible exact tollref05_Value.mono _ _)
      | (with_reducible exact LeO.refl _)
      | (with_reducible exact LeO.none _)
      | (with_reducible refine LeO.ite ?_ ?_)
      | (with_reducible refine LeO.bind ?_ (fun _ => ?_))
      | exact ih0 _ _ _ _ _
      | exact pairs_All.mono _ _ _
      | exact pairs_Token.mono _ _
      | exact pairs_Value.mono _ _
      | exact tolllaw05_Few.mono _ _
      | exact tolllaw05_awake.mono _
      | exact tollref01_Same.mono _ _ _
      | exact tollref05_All.mono _ _ _
      | exact tollref05_Same.mono _ _ _
      | exact tollref05_Token.mono _ _
      | exact tollref05_Value.mono _ _
      | exact LeO.none _
      | refine LeO.ite ?_ ?_
      | refine LeO.bind ?_ (fun _ => ?_)
set_option maxHeartbeats 8000000 in
set_option maxRecDepth 100000 in
theorem tolllaw05_PairsTells.calls (k : Nat) (A0 : Option Addr) (c0 : Nat) (l0 : List (S35)) (a1 : ByteArray) (a2 : ByteArray) (r : Bool) (w : World) (hr0 : Kd.C k35 w A0 l0.length l0) (hc0 : l0.length ≤ c0) (h : tolllaw05_PairsTells.f k l0 a1 a2 = some r) :
    Calls Tryd.prog 3 #[.slice A0 l0.length c0, .string a1, .string a2] w fun e w' => e = .returned (.bool r) ∧ Below w.heap.size w w' := by
  have HR0 := Aside0.mk hr0
  have HC0 := Aside0.mk hc0
  clear hr0 hc0
  have HB := Aside0.mk (Below.refl w.heap.size w)
  have H : ((tolllaw05_Few.f k l0).bind fun t175 => ((tolllaw01_Few.f a1).bind fun t178 => ((tolllaw01_Few.f a2).bind fun t179 => ((tollref05_All.f k t175 t178).bind fun t180 => ((pairs_Get.f t175 t178).bind fun bt183 => (if (bt183.2 != (decide ((t180.length : Int) > 0))) = true then (tolllaw05_PairsTells.j0 k t175 t178 t179 t180 true) else (if bt183.2 = true then (if 0 < (t180.length : Int) then (if bt183.1.toList = (rdOf ByteArray.empty t180 0).toList then (tolllaw05_PairsTells.j0 k t175 t178 t179 t180 false) else (tolllaw05_PairsTells.j0 k t175 t178 t179 t180 true)) else (none)) else (tolllaw05_PairsTells.j0 k t175 t178 t179 t180 (bt183.1.toList != ([] : List UInt8)))))))))) = some r := h
  clear h
  replace H := Option.bind_eq_some_iff.mp H
  obtain ⟨t175, A40, H⟩ := H
  replace H : ((tolllaw01_Few.f a1).bind fun t178 => ((tolllaw01_Few.f a2).bind fun t179 => ((tollref05_All.f k t175 t178).bind fun t180 => ((pairs_Get.f t175 t178).bind fun bt183 => (if (bt183.2 != (decide ((t180.length : Int) > 0))) = true then (tolllaw05_PairsTells.j0 k t175 t178 t179 t180 true) else (if bt183.2 = true then (if 0 < (t180.length : Int) then (if bt183.1.toList = (rdOf ByteArray.empty t180 0).toList then (tolllaw05_PairsTells.j0 k t175 t178 t179 t180 false) else (tolllaw05_PairsTells.j0 k t175 t178 t179 t180 true)) else (none)) else (tolllaw05_PairsTells.j0 k t175 t178 t179 t180 (bt183.1.toList != ([] : List UInt8))))))))) = some r := H
  have A4 := Aside0.mk A40
  clear A40
  replace H := Option.bind_eq_some_iff.mp H
  obtain ⟨t178, A50, H⟩ := H
  replace H : ((tolllaw01_Few.f a2).bind fun t179 => ((tollref05_All.f k t175 t178).bind fun t180 => ((pairs_Get.f t175 t178).bind fun bt183 => (if (bt183.2 != (decide ((t180.length : Int) > 0))) = true then (tolllaw05_PairsTells.j0 k t175 t178 t179 t180 true) else (if bt183.2 = true then (if 0 < (t180.length : Int) then (if bt183.1.toList = (rdOf ByteArray.empty t180 0).toList then (tolllaw05_PairsTells.j0 k t175 t178 t179 t180 false) else (tolllaw05_PairsTells.j0 k t175 t178 t179 t180 true)) else (none)) else (tolllaw05_PairsTells.j0 k t175 t178 t179 t180 (bt183.1.toList != ([] : List UInt8)))))))) = some r := H
  have A5 := Aside0.mk A50
  clear A50
  replace H := Option.bind_eq_some_iff.mp H
  obtain ⟨t179, A60, H⟩ := H
  replace H : ((tollref05_All.f k t175 t178).bind fun t180 => ((pairs_Get.f t175 t178).bind fun bt183 => (if (bt183.2 != (decide ((t180.length : Int) > 0))) = true then (tolllaw05_PairsTells.j0 k t175 t178 t179 t180 true) else (if bt183.2 = true then (if 0 < (t180.length : Int) then (if bt183.1.toList = (rdOf ByteArray.empty t180 0).toList then (tolllaw05_PairsTells.j0 k t175 t178 t179 t180 false) else (tolllaw05_PairsTells.j0 k t175 t178 t179 t180 true)) else (none)) else (tolllaw05_PairsTells.j0 k t175 t178 t179 t180 (bt183.1.toList != ([] : List UInt8))))))) = some r := H
  have A6 := Aside0.mk A60
  clear A60
  replace H := Option.bind_eq_some_iff.mp H
  obtain ⟨t180, A70, H⟩ := H
  replace H : ((pairs_Get.f t175 t178).bind fun bt183 => (if (bt183.2 != (decide ((t180.length : Int) > 0))) = true then (tolllaw05_PairsTells.j0 k t175 t178 t179 t180 true) else (if bt183.2 = true then (if 0 < (t180.length : Int) then (if bt183.1.toList = (rdOf ByteArray.empty t180 0).toList then (tolllaw05_PairsTells.j0 k t175 t178 t179 t180 false) else (tolllaw05_PairsTells.j0 k t175 t178 t179 t180 true)) else (none)) else (tolllaw05_PairsTells.j0 k t175 t178 t179 t180 (bt183.1.toList != ([] : List UInt8)))))) = some r := H
  have A7 := Aside0.mk A70
  clear A70
  replace H := Option.bind_eq_some_iff.mp H
  obtain ⟨⟨t183, t184⟩, A80, H⟩ := H
  replace H : (if (t184 != (decide ((t180.length : Int) > 0))) = true then (tolllaw05_PairsTells.j0 k t175 t178 t179 t180 true) else (if t184 = true then (if 0 < (t180.length : Int) then (if t183.toList = (rdOf ByteArray.empty t180 0).toList then (tolllaw05_PairsTells.j0 k t175 t178 t179 t180 false) else (tolllaw05_PairsTells.j0 k t175 t178 t179 t180 true)) else (none)) else (tolllaw05_PairsTells.j0 k t175 t178 t179 t180 (t183.toList != ([] : List UInt8))))) = some r := H
  have A8 := Aside0.mk A80
  clear A80
  have HC9 := Aside0.mk H
  clear H
  go_enter Tryd.func3, Tryd.ntmps3
  go_upto_region 4 with (first | ((with_reducible refine gate_callee (f := 4) rfl ?_); refine goesL_ (some 11) rfl rfl Tryd.func4 (by kernel_rfl) rfl #[.slice A0 l0.length c0] rfl (by (try simp only [List.map_toArray, List.map_cons, List.map_nil]); first | done | rfl | (simp only [List.length_drop, List.length_take]; rfl)) ?_; (with_reducible refine (tolllaw05_Few.calls k _ _ l0 t175 _ ?side1 ?side2 A4.out).mono ?_); (case side1 => repeat (first | exact HR0.out | (with_reducible refine Kd.C_alloc ?_ _) | (with_reducible refine Kd.C_drewN ?_ _) | (with_reducible refine Kd.C_drew ?_))); (case side2 => exact HC0.out); rintro e w10 ⟨v176, rfl, ho0, hb⟩; refine ⟨_, rfl, ?_⟩; have n0_ := Aside0.mk (Kd.R_lower ho0 (below_size (by repeat (first | (with_reducible first | exact HB.out | apply below_alloc | apply pw_below_drewN | apply below_drew1) | exact HB.out)))); have n1_ := Aside0.mk (below_step (by repeat (first | (with_reducible first | exact HB.out | apply below_alloc | apply pw_below_drewN | apply below_drew1) | exact HB.out)) hb); clear HB; have HO177 := n0_; have HB := n1_; clear n0_ n1_; (try clear hb); (try clear hb2); (try clear hk); (try clear hi); (try clear ho0)) | ((with_reducible refine gate_callee (f := 5) rfl ?_); refine goesL_ (some 13) rfl rfl Tryd.func5 (by kernel_rfl) rfl #[.string a1] rfl (by (try simp only [List.map_toArray, List.map_cons, List.map_nil]); first | done | rfl | (simp only [List.length_drop, List.length_take]; rfl)) ?_; (with_reducible refine (tolllaw01_Few.calls a1 t178 _ A5.out).mono ?_); rintro e w' ⟨rfl, ⟨nd, rfl⟩⟩; refine ⟨_, rfl, ?_⟩) | ((with_reducible refine gate_callee (f := 5) rfl ?_); refine goesL_ (some 15) rfl rfl Tryd.func5 (by kernel_rfl) rfl #[.string a2] rfl (by (try simp only [List.map_toArray, List.map_cons, List.map_nil]); first | done | rfl | (simp only [List.length_drop, List.length_take]; rfl)) ?_; (with_reducible refine (tolllaw01_Few.calls a2 t179 _ A6.out).mono ?_); rintro e w' ⟨rfl, ⟨nd, rfl⟩⟩; refine ⟨_, rfl, ?_⟩; obtain ⟨Ao11, co11, eo11⟩ := Kd.R_slice HO177.out; subst eo11) | ((with_reducible refine gate_callee (f := 6) rfl ?_); refine goesL_ (some 18) rfl rfl Tryd.func6 (by kernel_rfl) rfl #[.slice Ao11 t175.length co11, .string t178] rfl (by (try simp only [List.map_toArray, List.map_cons, List.map_nil]); first | done | rfl | (simp only [List.length_drop, List.length_take]; rfl)) ?_; (with_reducible refine (tollref05_All.calls k _ _ t175 t178 t180 _ ?side1 ?side2 A7.out).mono ?_); (case side1 => repeat (first | exact (Kd.R_reads' HO177.out).2.2 | (with_reducible refine Kd.C_alloc ?_ _) | (with_reducible refine Kd.C_drewN ?_ _) | (with_reducible refine Kd.C_drew ?_))); (case side2 => exact (Kd.R_reads' HO177.out).2.1); rintro e w12 ⟨v181, rfl, ho0, hb⟩; refine ⟨_, rfl, ?_⟩; have n0_ := Aside0.mk (Kd.R_below (by (with_reducible repeat (first | apply Kd.R_alloc | apply Kd.R_drewN | apply Kd.R_drew)); exact HO177.out) hb); have n1_ := Aside0.mk (Kd.R_lower ho0 (below_size (by repeat (first | (with_reducible first | exact HB.out | apply below_alloc | apply pw_below_drewN | apply below_drew1) | exact HB.out)))); have n2_ := Aside0.mk (below_step (by repeat (first | (with_reducible first | exact HB.out | apply below_alloc | apply pw_below_drewN | apply below_drew1) | exact HB.out)) hb); clear HO177; clear HB; have HO177 := n0_; have HO182 := n1_; have HB := n2_; clear n0_ n1_ n2_; (try clear hb); (try clear hb2); (try clear hk); (try clear hi); (try clear ho0)) | ((with_reducible refine gate_callee (f := 7) rfl ?_); refine goesL_ (some 22) rfl rfl Tryd.func7 (by kernel_rfl) rfl #[.slice Ao11 t175.length co11, .string t178] rfl (by (try simp only [List.map_toArray, List.map_cons, List.map_nil]); first | done | rfl | (simp only [List.length_drop, List.length_take]; rfl)) ?_; (with_reducible refine (pairs_Get.calls _ _ t175 t178 t183 t184 _ ?side1 ?side2 A8.out).mono ?_); (case side1 => repeat (first | exact (Kd.R_reads' HO177.out).2.2 | (with_reducible refine Kd.C_alloc ?_ _) | (with_reducible refine Kd.C_drewN ?_ _) | (with_reducible refine Kd.C_drew ?_))); (case side2 => exact (Kd.R_reads' HO177.out).2.1); rintro e w13 ⟨rfl, hb⟩; refine ⟨_, rfl, ?_⟩; have n0_ := Aside0.mk (Kd.R_below (by (with_reducible repeat (first | apply Kd.R_alloc | apply Kd.R_drewN | apply Kd.R_drew)); exact HO177.out) hb); have n1_ := Aside0.mk (Kd.R_below (by (with_reducible repeat (first | apply Kd.R_alloc | apply Kd.R_drewN | apply Kd.R_drew)); exact HO182.out) hb); have n2_ := Aside0.mk (below_step (by repeat (first | (with_reducible first | exact HB.out | apply below_alloc | apply pw_below_drewN | apply below_drew1) | exact HB.out)) hb); clear HO177; clear HO182; clear HB; have HO177 := n0_; have HO182 := n1_; have HB := n2_; clear n0_ n1_ n2_; (try clear hb); (try clear hb2); (try clear hk); (try clear hi)))
  (try simp only [Act.put, List.setIfInBounds_toArray, List.set_cons_zero, List.set_cons_succ])
  go_cut [47] (fun v47 wc => ∃ (kq : Nat) (x47_8 : Bool), v47 = .bool x47_8 ∧ Aside0 (tolllaw05_PairsTells.j0 kq t175 t178 t179 t180 x47_8 = some r) ∧ Aside0 (kq ≤ k) ∧ Aside0 (Kd.R k35 35 wc w.heap.size (fun _ => True) (.slice Ao11 t175.length co11) t175) ∧ Aside0 (Kd.R Kd.string 9 wc w.heap.size (fun _ => True) v181 t180) ∧ Aside0 (Below w.heap.size w wc))
  case first =>
    have H := HC9.out
    clear HC9
    by_cases c14 : (t184 != (decide ((t180.length : Int) > 0))) = true
    · rw [if_pos c14] at H
      have c14b0 : (t184 != (decide ((t180.length : Int) > 0))) = true := c14
      (try (have c14b1 : decide (t184 = (decide ((t180.length : Int) > 0))) = false := by simpa using c14))
      (try (have c14b2 : (t184 == (decide ((t180.length : Int) > 0))) = false := by simpa using c14))
      (try (have c14b3 : ¬ (t184 = (decide ((t180.length : Int) > 0))) := by simpa using c14))
      clear c14
      (first | rw [c14b0] | rw [c14b1] | rw [c14b2] | (simp only [i64_w, i32_w]; rw [c14b0]) | skip)
      (try simp only [gt_iff_lt, ge_iff_le, Int.natCast_pos] at c14b0)
      (try simp only [gt_iff_lt, ge_iff_le, Int.natCast_pos] at c14b1)
      (try simp only [gt_iff_lt, ge_iff_le, Int.natCast_pos] at c14b2)
      (try simp only [gt_iff_lt, ge_iff_le, Int.natCast_pos] at c14b3)
      have H' := Aside0.mk H
      clear H
      obtain ⟨Ao15, co15, eo15⟩ := Kd.R_slice HO182.out
      subst eo15
      go_wp2
      go_meet
      case rel => exact ⟨_, (true), (by first | rfl | (simp; done) | (simp [*]; done) | (simp [bne_nil_isEmpty, beq_nil_isEmpty]; done) | (simp [*, bne_nil_isEmpty, beq_nil_isEmpty]; done)), H', ⟨by first | omega | exact Nat.le_refl _⟩, ⟨by (with_reducible repeat (first | apply Kd.R_alloc | apply Kd.R_drewN | apply Kd.R_drew)); exact HO177.out⟩, ⟨by (with_reducible repeat (first | apply Kd.R_alloc | apply Kd.R_drewN | apply Kd.R_drew)); exact HO182.out⟩, ⟨by repeat (first | (with_reducible first | exact HB.out | apply below_alloc | apply pw_below_drewN | apply below_drew1) | exact HB.out)⟩⟩
    · rw [if_neg c14] at H
      have c14b0 : (t184 != (decide ((t180.length : Int) > 0))) = false := by simpa using c14
      (try (have c14b1 : decide (t184 = (decide ((t180.length : Int) > 0))) = true := by simpa using c14))
      (try (have c14b2 : (t184 == (decide ((t180.length : Int) > 0))) = true := by simpa using c14))
      clear c14
      (first | rw [c14b0] | rw [c14b1] | rw [c14b2] | (simp only [i64_w, i32_w]; rw [c14b0]) | skip)
      (try simp only [gt_iff_lt, ge_iff_le, Int.natCast_pos] at c14b0)
      (try simp only [gt_iff_lt, ge_iff_le, Int.natCast_pos] at c14b1)
      (try simp only [gt_iff_lt, ge_iff_le, Int.natCast_pos] at c14b2)
      by_cases c16 : t184 = true
      · subst c16
        have H1 : (if 0 < (t180.length : Int) then (if t183.toList = (rdOf ByteArray.empty t180 0).toList then (tolllaw05_PairsTells.j0 k t175 t178 t179 t180 false) else (tolllaw05_PairsTells.j0 k t175 t178 t179 t180 true)) else (none)) = some r := by rw [if_pos rfl] at H; exact H
        clear H
        have H := H1
        clear H1
        by_cases c17 : 0 < (t180.length : Int)
        · rw [if_pos c17] at H
          have c17b0 : decide (0 < (t180.length : Int)) = true := decide_eq_true c17
          have c17b1 : decide (0 < t180.length) = true := decide_eq_true (by omega)
          clear c17
          by_cases c18 : t183.toList = (rdOf ByteArray.empty t180 0).toList
          · rw [if_pos c18] at H
            have c18b0 : (t183.toList == (rdOf ByteArray.empty t180 0).toList) = true := beq_iff_eq.mpr c18
            have c18b1 : (t183.toList != (rdOf ByteArray.empty t180 0).toList) = false := bne_eq_false_iff_eq.mpr c18
            clear c18
            have H' := Aside0.mk H
            clear H
            obtain ⟨Ao19, co19, eo19⟩ := Kd.R_slice HO182.out
            subst eo19
            have p185 : 0 ≤ (0 : Int) := (by omega)
            have q185 : 0 < (t180.length : Int) := of_decide_eq_true (by first | (with_reducible assumption) | assumption)
            obtain ⟨ad185, e185, hx185_0⟩ := Kd.at_string (Kd.R_reads' HO182.out).2.2 0 p185 q185
            cases e185
            have qi185 : (0 < t180.length) = True := eq_true (by omega)
            (try rw [show ((0 : Int)).toNat = 0 from rfl] at hx185_0)
            (try rw [Addr.add_zero'] at hx185_0)
            replace p185 := eq_true p185
            replace q185 := eq_true q185
            go_wp2
            go_meet
            case rel => exact ⟨_, (false), (by first | rfl | (simp; done) | (simp [*]; done) | (simp [bne_nil_isEmpty, beq_nil_isEmpty]; done) | (simp [*, bne_nil_isEmpty, beq_nil_isEmpty]; done)), H', ⟨by first | omega | exact Nat.le_refl _⟩, ⟨by (with_reducible repeat (first | apply Kd.R_alloc | apply Kd.R_drewN | apply Kd.R_drew)); exact HO177.out⟩, ⟨by (with_reducible repeat (first | apply Kd.R_alloc | apply Kd.R_drewN | apply Kd.R_drew)); exact HO182.out⟩, ⟨by repeat (first | (with_reducible first | exact HB.out | apply below_alloc | apply pw_below_drewN | apply below_drew1) | exact HB.out)⟩⟩
          · rw [if_neg c18] at H
            have c18b0 : (t183.toList == (rdOf ByteArray.empty t180 0).toList) = false := beq_eq_false_iff_ne.mpr c18
            have c18b1 : (t183.toList != (rdOf ByteArray.empty t180 0).toList) = true := bne_iff_ne.mpr c18
            have H' := Aside0.mk H
            clear H
            obtain ⟨Ao20, co20, eo20⟩ := Kd.R_slice HO182.out
            subst eo20
            have p185 : 0 ≤ (0 : Int) := (by omega)
            have q185 : 0 < (t180.length : Int) := of_decide_eq_true (by first | (with_reducible assumption) | assumption)
            obtain ⟨ad185, e185, hx185_0⟩ := Kd.at_string (Kd.R_reads' HO182.out).2.2 0 p185 q185
            cases e185
            have qi185 : (0 < t180.length) = True := eq_true (by omega)
            (try rw [show ((0 : Int)).toNat = 0 from rfl] at hx185_0)
            (try rw [Addr.add_zero'] at hx185_0)
            replace p185 := eq_true p185
            replace q185 := eq_true q185
            go_wp2
            go_meet
            case rel => exact ⟨_, (true), (by first | rfl | (simp; done) | (simp [*]; done) | (simp [bne_nil_isEmpty, beq_nil_isEmpty]; done) | (simp [*, bne_nil_isEmpty, beq_nil_isEmpty]; done)), H', ⟨by first | omega | exact Nat.le_refl _⟩, ⟨by (with_reducible repeat (first | apply Kd.R_alloc | apply Kd.R_drewN | apply Kd.R_drew)); exact HO177.out⟩, ⟨by (with_reducible repeat (first | apply Kd.R_alloc | apply Kd.R_drewN | apply Kd.R_drew)); exact HO182.out⟩, ⟨by repeat (first | (with_reducible first | exact HB.out | apply below_alloc | apply pw_below_drewN | apply below_drew1) | exact HB.out)⟩⟩
        · rw [if_neg c17] at H
          exact absurd H (by simp)
      · replace c16 := Bool.eq_false_iff.mpr c16
        subst c16
        have H1 : (tolllaw05_PairsTells.j0 k t175 t178 t179 t180 (t183.toList != ([] : List UInt8))) = some r := by rw [if_neg (show ¬ (false = true) by decide)] at H; exact H
        clear H
        have H := H1
        clear H1
        have H' := Aside0.mk H
        clear H
        obtain ⟨Ao21, co21, eo21⟩ := Kd.R_slice HO182.out
        subst eo21
        go_wp2
        go_meet
        case rel => exact ⟨_, ((t183.toList != ([] : List UInt8))), (by first | rfl | (simp; done) | (simp [*]; done) | (simp [bne_nil_isEmpty, beq_nil_isEmpty]; done) | (simp [*, bne_nil_isEmpty, beq_nil_isEmpty]; done)), H', ⟨by first | omega | exact Nat.le_refl _⟩, ⟨by (with_reducible repeat (first | apply Kd.R_alloc | apply Kd.R_drewN | apply Kd.R_drew)); exact HO177.out⟩, ⟨by (with_reducible repeat (first | apply Kd.R_alloc | apply Kd.R_drewN | apply Kd.R_drew)); exact HO182.out⟩, ⟨by repeat (first | (with_reducible first | exact HB.out | apply below_alloc | apply pw_below_drewN | apply below_drew1) | exact HB.out)⟩⟩
  case rest =>
    clear HC9
    try clear c1
    try clear p1
    try clear q1
    try clear hx1
    try clear qi1
    try clear p2
    try clear c3
    try clear c4
    try clear c5
    try clear c6
    try clear c7
    try clear c14
    try clear c14b0
    try clear c14b1
    try clear c14b2
    try clear c16
    try clear c17
    try clear c17b0
    try clear c17b1
    try clear c18
    try clear c18b0
    try clear c18b1
    try clear p18
    try clear q18
    try clear hx18
    try clear qi18
    try clear hx185_0
    try clear p185
    try clear q185
    obtain ⟨kq, x47_8, rfl, HA, HJ8, HO_0, HO_7, HB⟩ := hcut
    cases kq with
    | zero => exact absurd HA.out (by simp [tolllaw05_PairsTells.j0])
    | succ kj8 =>
      have H := HA.out
      clear HA
      simp only [tolllaw05_PairsTells.j0] at H
      by_cases c22 : x47_8 = true
      · subst c22
        have H1 : (none) = some r := by rw [if_pos rfl] at H; exact H
        clear H
        have H := H1
        clear H1
        exact absurd H (by simp)
      · replace c22 := Bool.eq_false_iff.mpr c22
        subst c22
        have H1 : ((pairs_Token.f kj8 t178).bind fun t186 => ((tollref05_Token.f kj8 t178).bind fun t187 => (if (t186 == t187) = true then ((pairs_Value.f kj8 t178).bind fun t188 => ((tollref05_Value.f kj8 t178).bind fun t189 => (if (t188 == t189) = true then ((pairs_Same.f t178 t179).bind fun t190 => ((tollref05_Same.f kj8 t178 t179).bind fun t191 => (if (t190 == t191) = true then ((pairs_All.f kj8 t175 t178).bind fun t192 => ((tollref01_Same.f kj8 t192 t180).bind fun t195 => (if t195 = true then ((tolllaw05_awake.f kj8).bind fun t196 => (some t196)) else (none)))) else (none)))) else (none)))) else (none)))) = some r := by rw [if_neg (show ¬ (false = true) by decide)] at H; exact H
        clear H
        have H := H1
        clear H1
        replace H := Option.bind_eq_some_iff.mp H
        obtain ⟨t186, A230, H⟩ := H
        replace H : ((tollref05_Token.f kj8 t178).bind fun t187 => (if (t186 == t187) = true then ((pairs_Value.f kj8 t178).bind fun t188 => ((tollref05_Value.f kj8 t178).bind fun t189 => (if (t188 == t189) = true then ((pairs_Same.f t178 t179).bind fun t190 => ((tollref05_Same.f kj8 t178 t179).bind fun t191 => (if (t190 == t191) = true then ((pairs_All.f kj8 t175 t178).bind fun t192 => ((tollref01_Same.f kj8 t192 t180).bind fun t195 => (if t195 = true then ((tolllaw05_awake.f kj8).bind fun t196 => (some t196)) else (none)))) else (none)))) else (none)))) else (none))) = some r := H
        have A23 := Aside0.mk A230
        clear A230
        replace H := Option.bind_eq_some_iff.mp H
        obtain ⟨t187, A240, H⟩ := H
        replace H : (if (t186 == t187) = true then ((pairs_Value.f kj8 t178).bind fun t188 => ((tollref05_Value.f kj8 t178).bind fun t189 => (if (t188 == t189) = true then ((pairs_Same.f t178 t179).bind fun t190 => ((tollref05_Same.f kj8 t178 t179).bind fun t191 => (if (t190 == t191) = true then ((pairs_All.f kj8 t175 t178).bind fun t192 => ((tollref01_Same.f kj8 t192 t180).bind fun t195 => (if t195 = true then ((tolllaw05_awake.f kj8).bind fun t196 => (some t196)) else (none)))) else (none)))) else (none)))) else (none)) = some r := H
        have A24 := Aside0.mk A240
        clear A240
        by_cases c25 : (t186 == t187) = true
        · rw [if_pos c25] at H
          have c25b0 : (t186 == t187) = true := c25
          (try (have c25b1 : decide (t186 = t187) = true := by simpa using c25))
          (try (have c25b2 : (t186 == t187) = true := by simpa using c25))
          clear c25
          replace H := Option.bind_eq_some_iff.mp H
          obtain ⟨t188, A260, H⟩ := H
          replace H : ((tollref05_Value.f kj8 t178).bind fun t189 => (if (t188 == t189) = true then ((pairs_Same.f t178 t179).bind fun t190 => ((tollref05_Same.f kj8 t178 t179).bind fun t191 => (if (t190 == t191) = true then ((pairs_All.f kj8 t175 t178).bind fun t192 => ((tollref01_Same.f kj8 t192 t180).bind fun t195 => (if t195 = true then ((tolllaw05_awake.f kj8).bind fun t196 => (some t196)) else (none)))) else (none)))) else (none))) = some r := H
          have A26 := Aside0.mk A260
          clear A260
          replace H := Option.bind_eq_some_iff.mp H
          obtain ⟨t189, A270, H⟩ := H
          replace H : (if (t188 == t189) = true then ((pairs_Same.f t178 t179).bind fun t190 => ((tollref05_Same.f kj8 t178 t179).bind fun t191 => (if (t190 == t191) = true then ((pairs_All.f kj8 t175 t178).bind fun t192 => ((tollref01_Same.f kj8 t192 t180).bind fun t195 => (if t195 = true then ((tolllaw05_awake.f kj8).bind fun t196 => (some t196)) else (none)))) else (none)))) else (none)) = some r := H
          have A27 := Aside0.mk A270
          clear A270
          by_cases c28 : (t188 == t189) = true
          · rw [if_pos c28] at H
            have c28b0 : (t188 == t189) = true := c28
            (try (have c28b1 : decide (t188 = t189) = true := by simpa using c28))
            (try (have c28b2 : (t188 == t189) = true := by simpa using c28))
            clear c28
            replace H := Option.bind_eq_some_iff.mp H
            obtain ⟨t190, A290, H⟩ := H
            replace H : ((tollref05_Same.f kj8 t178 t179).bind fun t191 => (if (t190 == t191) = true then ((pairs_All.f kj8 t175 t178).bind fun t192 => ((tollref01_Same.f kj8 t192 t180).bind fun t195 => (if t195 = true then ((tolllaw05_awake.f kj8).bind fun t196 => (some t196)) else (none)))) else (none))) = some r := H
            have A29 := Aside0.mk A290
            clear A290
            replace H := Option.bind_eq_some_iff.mp H
            obtain ⟨t191, A300, H⟩ := H
            replace H : (if (t190 == t191) = true then ((pairs_All.f kj8 t175 t178).bind fun t192 => ((tollref01_Same.f kj8 t192 t180).bind fun t195 => (if t195 = true then ((tolllaw05_awake.f kj8).bind fun t196 => (some t196)) else (none)))) else (none)) = some r := H
            have A30 := Aside0.mk A300
            clear A300
            by_cases c31 : (t190 == t191) = true
            · rw [if_pos c31] at H
              have c31b0 : (t190 == t191) = true := c31
              (try (have c31b1 : decide (t190 = t191) = true := by simpa using c31))
              (try (have c31b2 : (t190 == t191) = true := by simpa using c31))
              clear c31
              replace H := Option.bind_eq_some_iff.mp H
              obtain ⟨t192, A320, H⟩ := H
              replace H : ((tollref01_Same.f kj8 t192 t180).bind fun t195 => (if t195 = true then ((tolllaw05_awake.f kj8).bind fun t196 => (some t196)) else (none))) = some r := H
              have A32 := Aside0.mk A320
              clear A320
              replace H := Option.bind_eq_some_iff.mp H
              obtain ⟨t195, A330, H⟩ := H
              replace H : (if t195 = true then ((tolllaw05_awake.f kj8).bind fun t196 => (some t196)) else (none)) = some r := H
              have A33 := Aside0.mk A330
              clear A330
              by_cases c34 : t195 = true
              · subst c34
                have H1 : ((tolllaw05_awake.f kj8).bind fun t196 => (some t196)) = some r := by rw [if_pos rfl] at H; exact H
                clear H
                have H := H1
                clear H1
                replace H := Option.bind_eq_some_iff.mp H
                obtain ⟨t196, A350, H⟩ := H
                replace H : (some t196) = some r := H
                have A35 := Aside0.mk A350
                clear A350
                obtain rfl := Option.some.inj H
                go_wp2_with (first | ((with_reducible refine gate_callee (f := 8) rfl ?_); refine goesL_ (some 49) rfl rfl Tryd.func8 (by kernel_rfl) rfl #[.string t178] rfl (by (try simp only [List.map_toArray, List.map_cons, List.map_nil]); first | done | rfl | (simp only [List.length_drop, List.length_take]; rfl)) ?_; (with_reducible refine (pairs_Token.calls kj8 t178 t186 _ A23.out).mono ?_); rintro e w' ⟨rfl, ⟨nd, rfl⟩⟩; refine ⟨_, rfl, ?_⟩) | ((with_reducible refine gate_callee (f := 9) rfl ?_); refine goesL_ (some 51) rfl rfl Tryd.func9 (by kernel_rfl) rfl #[.string t178] rfl (by (try simp only [List.map_toArray, List.map_cons, List.map_nil]); first | done | rfl | (simp only [List.length_drop, List.length_take]; rfl)) ?_; (with_reducible refine (tollref05_Token.calls kj8 t178 t187 _ A24.out).mono ?_); rintro e w' ⟨rfl, ⟨nd, rfl⟩⟩; refine ⟨_, rfl, ?_⟩) | (go_at_call 10; (with_reducible refine (pairs_Value.calls kj8 t178 t188 _ A26.out).mono ?_); rintro e w36 ⟨rfl, hb⟩; have n0_ := Aside0.mk (Kd.R_below (by (with_reducible repeat (first | apply Kd.R_alloc | apply Kd.R_drewN | apply Kd.R_drew)); exact HO_0.out) hb); have n1_ := Aside0.mk (Kd.R_below (by (with_reducible repeat (first | apply Kd.R_alloc | apply Kd.R_drewN | apply Kd.R_drew)); exact HO_7.out) hb); have n2_ := Aside0.mk (below_step (by repeat (first | (with_reducible first | exact HB.out | apply below_alloc | apply pw_below_drewN | apply below_drew1) | exact HB.out)) hb); clear HO_0; clear HO_7; clear HB; have HO_0 := n0_; have HO_7 := n1_; have HB := n2_; clear n0_ n1_ n2_; (try clear hb); (try clear hb2); (try clear hk); (try clear hi)) | (go_at_call 11; (with_reducible refine (tollref05_Value.calls kj8 t178 t189 _ A27.out).mono ?_); rintro e w' ⟨rfl, ⟨nd, rfl⟩⟩) | (go_at_call 12; (with_reducible refine (pairs_Same.calls t178 t179 t190 _ A29.out).mono ?_); rintro e w37 ⟨rfl, hb⟩; have n0_ := Aside0.mk (Kd.R_below (by (with_reducible repeat (first | apply Kd.R_alloc | apply Kd.R_drewN | apply Kd.R_drew)); exact HO_0.out) hb); have n1_ := Aside0.mk (Kd.R_below (by (with_reducible repeat (first | apply Kd.R_alloc | apply Kd.R_drewN | apply Kd.R_drew)); exact HO_7.out) hb); have n2_ := Aside0.mk (below_step (by repeat (first | (with_reducible first | exact HB.out | apply below_alloc | apply pw_below_drewN | apply below_drew1) | exact HB.out)) hb); clear HO_0; clear HO_7; clear HB; have HO_0 := n0_; have HO_7 := n1_; have HB := n2_; clear n0_ n1_ n2_; (try clear hb); (try clear hb2); (try clear hk); (try clear hi)) | (go_at_call 13; (with_reducible refine (tollref05_Same.calls kj8 t178 t179 t191 _ A30.out).mono ?_); rintro e w38 ⟨rfl, hb⟩; have n0_ := Aside0.mk (Kd.R_below (by (with_reducible repeat (first | apply Kd.R_alloc | apply Kd.R_drewN | apply Kd.R_drew)); exact HO_0.out) hb); have n1_ := Aside0.mk (Kd.R_below (by (with_reducible repeat (first | apply Kd.R_alloc | apply Kd.R_drewN | apply Kd.R_drew)); exact HO_7.out) hb); have n2_ := Aside0.mk (below_step (by repeat (first | (with_reducible first | exact HB.out | apply below_alloc | apply pw_below_drewN | apply below_drew1) | exact HB.out)) hb); clear HO_0; clear HO_7; clear HB; have HO_0 := n0_; have HO_7 := n1_; have HB := n2_; clear n0_ n1_ n2_; (try clear hb); (try clear hb2); (try clear hk); (try clear hi)) | (go_at_call 15; (with_reducible refine (pairs_All.calls kj8 _ _ t175 t178 t192 _ ?side1 ?side2 A32.out).mono ?_); (case side1 => repeat (first | exact (Kd.R_reads' HO_0.out).2.2 | (with_reducible refine Kd.C_alloc ?_ _) | (with_reducible refine Kd.C_drewN ?_ _) | (with_reducible refine Kd.C_drew ?_))); (case side2 => exact (Kd.R_reads' HO_0.out).2.1); rintro e w39 ⟨v193, rfl, ho0, hb⟩; have n0_ := Aside0.mk (Kd.R_below (by (with_reducible repeat (first | apply Kd.R_alloc | apply Kd.R_drewN | apply Kd.R_drew)); exact HO_0.out) hb); have n1_ := Aside0.mk (Kd.R_elder' (by (with_reducible repeat (first | apply Kd.R_alloc | apply Kd.R_drewN | apply Kd.R_drew)); exact HO_7.out) (Kd.R_base ho0) hb); have n2_ := Aside0.mk (Kd.R_lower (Kd.R_new' ho0 (Kd.R_lt (by (with_reducible repeat (first | apply Kd.R_alloc | apply Kd.R_drewN | apply Kd.R_drew)); exact HO_7.out))) (below_size (by repeat (first | (with_reducible first | exact HB.out | apply below_alloc | apply pw_below_drewN | apply below_drew1) | exact HB.out)))); have n3_ := Aside0.mk (below_step (by repeat (first | (with_reducible first | exact HB.out | apply below_alloc | apply pw_below_drewN | apply below_drew1) | exact HB.out)) hb); clear HO_0; clear HO_7; clear HB; have HO_0 := n0_; have HO_7 := n1_; have HO194 := n2_; have HB := n3_; clear n0_ n1_ n2_ n3_; (try clear hb); (try clear hb2); (try clear hk); (try clear hi); (try clear ho0); obtain ⟨Ao40, co40, eo40⟩ := Kd.R_slice HO194.out; subst eo40; obtain ⟨Ao41, co41, eo41⟩ := Kd.R_slice HO_7.out; subst eo41) | (go_at_call 14; (with_reducible refine (tollref01_Same.calls kj8 _ _ t192 _ _ t180 true _ ?side1 ?side2 ?side3 ?side4 A33.out).mono ?_); (case side1 => repeat (first | exact (Kd.R_reads' HO194.out).2.2 | (with_reducible refine Kd.C_alloc ?_ _) | (with_reducible refine Kd.C_drewN ?_ _) | (with_reducible refine Kd.C_drew ?_))); (case side2 => exact (Kd.R_reads' HO194.out).2.1); (case side3 => repeat (first | exact (Kd.R_reads' HO_7.out).2.2 | (with_reducible refine Kd.C_alloc ?_ _) | (with_reducible refine Kd.C_drewN ?_ _) | (with_reducible refine Kd.C_drew ?_))); (case side4 => exact (Kd.R_reads' HO_7.out).2.1); rintro e w' ⟨rfl, ⟨nd, rfl⟩⟩) | (go_at_call 16; (with_reducible refine (tolllaw05_awake.calls kj8  t196 _ A35.out).mono ?_); rintro e w42 ⟨rfl, hb⟩; have n0_ := Aside0.mk (Kd.R_below (by (with_reducible repeat (first | apply Kd.R_alloc | apply Kd.R_drewN | apply Kd.R_drew)); exact HO_0.out) hb); have n1_ := Aside0.mk (Kd.R_below (by (with_reducible repeat (first | apply Kd.R_alloc | apply Kd.R_drewN | apply Kd.R_drew)); exact HO_7.out) hb); have n2_ := Aside0.mk (Kd.R_below (by (with_reducible repeat (first | apply Kd.R_alloc | apply Kd.R_drewN | apply Kd.R_drew)); exact HO194.out) hb); have n3_ := Aside0.mk (below_step (by repeat (first | (with_reducible first | exact HB.out | apply below_alloc | apply pw_below_drewN | apply below_drew1) | exact HB.out)) hb); clear HO_0; clear HO_7; clear HO194; clear HB; have HO_0 := n0_; have HO_7 := n1_; have HO194 := n2_; have HB := n3_; clear n0_ n1_ n2_ n3_; (try clear hb); (try clear hb2); (try clear hk); (try clear hi)))
                go_ret
                exact ⟨by first | rfl | (simp [errW_none, errW_some] <;> rfl) | (simp [*, errW_none, errW_some] <;> rfl), by repeat (first | (with_reducible first | exact HB.out | apply below_alloc | apply pw_below_drewN | apply below_drew1) | exact HB.out)⟩
              · replace c34 := Bool.eq_false_iff.mpr c34
                subst c34
                have H1 : (none) = some r := by rw [if_neg (show ¬ (false = true) by decide)] at H; exact H
                clear H
                have H := H1
                clear H1
                exact absurd H (by simp)
            · rw [if_neg c31] at H
              exact absurd H (by simp)
          · rw [if_neg c28] at H
            exact absurd H (by simp)
        · rw [if_neg c25] at H
          exact absurd H (by simp)

/-- THE ONE PURE STATEMENT of tolllaw05_PairsTells. -/
def tolllaw05_PairsTells.Pure : Prop := ∀ (l0 : List (S35)) (a1 : ByteArray) (a2 : ByteArray), (l0.length ≤ maxLen ∧ l0.length * 32 ≤ 140737488351232 ∧ ∀ y ∈ l0, (y.f0.size ≤ 140737488351232) ∧ (y.f1.size ≤ 140737488351232)) → (a1.size ≤ 140737488351232) → (a2.size ≤ 140737488351232) → ∃ k, tolllaw05_PairsTells.f k l0 a1 a2 = some true

end Go.Proofs.YtnldeohdojemlaaDoor.P
