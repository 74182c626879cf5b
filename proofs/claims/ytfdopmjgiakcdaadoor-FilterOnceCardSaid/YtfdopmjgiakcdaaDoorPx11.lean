-- written by wip/tool/hprint.py of this repo: the kit's print, with contracts by hand joined; Lean checks it.
import Derived.Test.YtfdopmjgiakcdaaDoorPx0
import Derived.Test.YtfdopmjgiakcdaaDoorPx4
import Derived.Test.YtfdopmjgiakcdaaDoorPx6
import Derived.Test.YtfdopmjgiakcdaaDoorPx8
import Derived.Test.YtfdopmjgiakcdaaDoorPx10
namespace Go.Proofs.YtfdopmjgiakcdaaDoor.P
open Go.RowKit Go.Proofs.YtfdopmjgiakcdaaDoorW.PrintWords Go.Proofs.YtfdopmjgiakcdaaDoorW.PrintLast Go.Proofs.YtfdopmjgiakcdaaDoorW.PrintMore
attribute [local go_sem] max2_int min2_int max_two min_two max_three min_three max_four min_four   -- for this text's walks alone
set_option linter.unusedVariables false
set_option linter.unusedSimpArgs false

/-! ### tolllaw07_FilterOnce: function 3 -/
def tolllaw07_FilterOnce.j0 : Nat → List (S27) → Int → Bool → Option (Bool)
 | 0, _, _, _ => none
 | k + 1, x0, x1, x18 => if x18 = true then ((filter_All.f k ([] : List (S27))).bind fun t221 => (if t221 = true then ((tolllaw07_awake.f k).bind fun t222 => (some t222)) else (none))) else (if (x0.length : Int) = 0 then (none) else ((some (([] : List (S27)) : List (S27))).bind fun y223 => (if 0 ≤ (Int.tmod (wrap64 (x1)) (x0.length : Int)) then (if (Int.tmod (wrap64 (x1)) (x0.length : Int)) ≤ (x0.length : Int) then ((some (x0.drop ((Int.tmod (wrap64 (x1)) (x0.length : Int)) : Int).toNat : List (S27))).bind fun y226 => (if y223.length + y226.length < 1466015503701 then ((some (y223 ++ y226 : List (S27))).bind fun y230 => ((some (x0.take ((Int.tmod (wrap64 (x1)) (x0.length : Int)) : Int).toNat : List (S27))).bind fun y233 => (if y230.length + y233.length < 1466015503701 then ((some (([] : List (S27)) : List (S27))).bind fun y240 => ((some (x0.take ((Int.tmod (wrap64 (x1)) (x0.length : Int)) : Int).toNat : List (S27))).bind fun y243 => (if y240.length + y243.length < 1466015503701 then ((some (y240 ++ y243 : List (S27))).bind fun y247 => (if 0 ≤ (wrap64 ((Int.tmod (wrap64 (x1)) (x0.length : Int)) + 1)) then (if (wrap64 ((Int.tmod (wrap64 (x1)) (x0.length : Int)) + 1)) ≤ (x0.length : Int) then ((some (x0.drop ((wrap64 ((Int.tmod (wrap64 (x1)) (x0.length : Int)) + 1)) : Int).toNat : List (S27))).bind fun y250 => (if y247.length + y250.length < 1466015503701 then ((some (([] : List (S27)) : List (S27))).bind fun y257 => (if y257.length + x0.length < 1466015503701 then ((some (y257 ++ x0 : List (S27))).bind fun y260 => (if (Int.tmod (wrap64 (x1)) (x0.length : Int)) < (x0.length : Int) then ((some (([(⟨(rd_T27 x0 (Int.tmod (wrap64 (x1)) (x0.length : Int))).f0, (rd_T27 x0 (Int.tmod (wrap64 (x1)) (x0.length : Int))).f1, (rd_T27 x0 (Int.tmod (wrap64 (x1)) (x0.length : Int))).f2, (rd_T27 x0 (Int.tmod (wrap64 (x1)) (x0.length : Int))).f3, (rd_T27 x0 (Int.tmod (wrap64 (x1)) (x0.length : Int))).f4, (rd_T27 x0 (Int.tmod (wrap64 (x1)) (x0.length : Int))).f5, (rd_T27 x0 (Int.tmod (wrap64 (x1)) (x0.length : Int))).f6, (rd_T27 x0 (Int.tmod (wrap64 (x1)) (x0.length : Int))).f7⟩ : S27)] : List (S27)) : List (S27))).bind fun y264 => (if y260.length + y264.length < 1466015503701 then ((filter_May.f k ((rd_T27 x0 (Int.tmod (wrap64 (x1)) (x0.length : Int))).f0) ((rd_T27 x0 (Int.tmod (wrap64 (x1)) (x0.length : Int))).f1) ((rd_T27 x0 (Int.tmod (wrap64 (x1)) (x0.length : Int))).f2) ((rd_T27 x0 (Int.tmod (wrap64 (x1)) (x0.length : Int))).f3) ((rd_T27 x0 (Int.tmod (wrap64 (x1)) (x0.length : Int))).f4) ((rd_T27 x0 (Int.tmod (wrap64 (x1)) (x0.length : Int))).f5) ((rd_T27 x0 (Int.tmod (wrap64 (x1)) (x0.length : Int))).f6) ((rd_T27 x0 (Int.tmod (wrap64 (x1)) (x0.length : Int))).f7)).bind fun t271 => (if t271 = true then (if (Int.tmod (wrap64 (x1)) (x0.length : Int)) ≤ (wrap64 ((Int.tmod (wrap64 (x1)) (x0.length : Int)) + 1)) then ((filter_All.f k ((x0.take ((wrap64 ((Int.tmod (wrap64 (x1)) (x0.length : Int)) + 1)) : Int).toNat).drop ((Int.tmod (wrap64 (x1)) (x0.length : Int)) : Int).toNat)).bind fun t276 => (if t276 = true then ((filter_All.f k (y230 ++ y233)).bind fun t277 => (if t277 = true then ((filter_All.f k (y247 ++ y250)).bind fun t278 => (if t278 = true then ((filter_All.f k (y260 ++ y264)).bind fun t279 => (if t279 = true then (none) else ((tolllaw07_awake.f k).bind fun t280 => (some t280)))) else (none))) else (none))) else (none))) else (none)) else (none))) else (none))) else (none))) else (none))) else (none))) else (none)) else (none))) else (none)))) else (none)))) else (none))) else (none)) else (none))))
def tolllaw07_FilterOnce.f (k : Nat) (l0 : List (S27)) (a1 : Int) : Option (Bool) := (tolllaw07_Few.f k l0).bind fun t217 => (if (t217.length : Int) = 0 then (tolllaw07_FilterOnce.j0 k t217 a1 true) else ((filter_All.f k t217).bind fun t220 => (tolllaw07_FilterOnce.j0 k t217 a1 (!t220))))
theorem tolllaw07_FilterOnce.mono_l : ∀ k, (∀ y0 y1 y2, LeO (tolllaw07_FilterOnce.j0 k y0 y1 y2) (tolllaw07_FilterOnce.j0 (k + 1) y0 y1 y2))
 | 0 => fun _ _ _ r h => by simp [tolllaw07_FilterOnce.j0] at h
 | k + 1 => by
  have ih0 := tolllaw07_FilterOnce.mono_l k
  ·intro y0 y1 y2
   unfold tolllaw07_FilterOnce.j0
   repeat' first
   | (with_reducible exact ih0 _ _ _)
   | (with_reducible exact filter_All.mono _ _)
   | (with_reducible exact filter_May.mono _ _ _ _ _ _ _ _ _)
   | (with_reducible exact tolllaw07_Few.mono _ _)
   | (with_reducible exact tolllaw07_awake.mono _)
   | (with_reducible exact LeO.refl _)
   | (with_reducible exact LeO.none _)
   | (with_reducible refine LeO.ite ?_ ?_)
   | (with_reducible refine LeO.bind ?_ (fun _ => ?_))
   | exact ih0 _ _ _
   | exact filter_All.mono _ _
   | exact filter_May.mono _ _ _ _ _ _ _ _ _
   | exact tolllaw07_Few.mono _ _
   | exact tolllaw07_awake.mono _
   | exact LeO.none _
   | refine LeO.ite ?_ ?_
   | refine LeO.bind ?_ (fun _ => ?_)
theorem tolllaw07_FilterOnce.mono : ∀ a0 a1 k, LeO (tolllaw07_FilterOnce.f k a0 a1) (tolllaw07_FilterOnce.f (k + 1) a0 a1) := by
 intro a0 a1 k
 have ih0 := tolllaw07_FilterOnce.mono_l k
 unfold tolllaw07_FilterOnce.f
 repeat' first
   | (with_reducible exact ih0 _ _ _)
   | (with_reducible exact filter_All.mono _ _)
   | (with_reducible exact filter_May.mono _ _ _ _ _ _ _ _ _)
   | (with_reducible exact tolllaw07_Few.mono _ _)
   | (with_reducible exact tolllaw07_awake.mono _)
   | (with_reducible exact LeO.refl _)
   | (with_reducible exact LeO.none _)
   | (with_reducible refine LeO.ite ?_ ?_)
   | (with_reducible refine LeO.bind ?_ (fun _ => ?_))
   | exact ih0 _ _ _
   | exact filter_All.mono _ _
   | exact filter_May.mono _ _ _ _ _ _ _ _ _
   | exact tolllaw07_Few.mono _ _
   | exact tolllaw07_awake.mono _
   | exact LeO.none _
   | refine LeO.ite ?_ ?_
   | refine LeO.bind ?_ (fun _ => ?_)
def tolllaw07_FilterOnce.T5 : Bool × List (List Nat × List Nat) := (true, [([], []), ([], []), ([], []), ([1, 2], [1, 2]), ([0, 3], [0, 3]), ([], []), ([], []), ([5, 6], [5, 6]), ([4, 7, 4], [4, 7]), ([8, 8, 0, 1, 2, 3, 4, 5, 6, 7, 8], [8])])
def tolllaw07_FilterOnce.B5 : List Nat := [0, 0, 0, 6, 15, 0, 0, 96, 255, 511]
theorem tolllaw07_FilterOnce.tab5 : rtab .any (opsOf Tryd.f3 5) = tolllaw07_FilterOnce.T5 := by kernel_rfl
theorem tolllaw07_FilterOnce.bits5 : waitsOk tolllaw07_FilterOnce.T5.2 tolllaw07_FilterOnce.B5 = true := by kernel_rfl
def tolllaw07_FilterOnce.T6 : Bool × List (List Nat × List Nat) := (true, [([], []), ([], []), ([], []), ([1, 2], [1, 2]), ([0, 3], [0, 3]), ([], []), ([], []), ([6], [6]), ([5, 7], [5, 7]), ([4, 8, 4], [4, 8]), ([9, 9, 0, 1, 2, 3, 4, 5, 6, 7, 8, 9], [9])])
def tolllaw07_FilterOnce.B6 : List Nat := [0, 0, 0, 6, 15, 0, 0, 64, 224, 511, 1023]
theorem tolllaw07_FilterOnce.tab6 : rtab .any (opsOf Tryd.f3 6) = tolllaw07_FilterOnce.T6 := by kernel_rfl
theorem tolllaw07_FilterOnce.bits6 : waitsOk tolllaw07_FilterOnce.T6.2 tolllaw07_FilterOnce.B6 = true := by kernel_rfl
def tolllaw07_FilterOnce.T7 : Bool × List (List Nat × List Nat) := (true, [([], []), ([], []), ([0, 1], [0, 1]), ([], []), ([], []), ([3, 4], [3, 4]), ([5], [5]), ([6], [6]), ([2, 7, 2], [2, 7]), ([8, 8, 0, 1, 2, 3, 4, 5, 6, 7, 8], [8])])
def tolllaw07_FilterOnce.B7 : List Nat := [0, 0, 3, 0, 0, 24, 56, 120, 255, 511]
theorem tolllaw07_FilterOnce.tab7 : rtab .any (opsOf Tryd.f3 7) = tolllaw07_FilterOnce.T7 := by kernel_rfl
theorem tolllaw07_FilterOnce.bits7 : waitsOk tolllaw07_FilterOnce.T7.2 tolllaw07_FilterOnce.B7 = true := by kernel_rfl
set_option maxHeartbeats 6000000 in
set_option maxRecDepth 100000 in
theorem tolllaw07_FilterOnce.calls (k : Nat) (A0 : Option Addr) (c0 : Nat) (l0 : List (S27)) (a1 : Int) (r : Bool) (w : World) (hr0 : Kd.C k27 w A0 l0.length l0) (hc0 : l0.length ≤ c0) (hG : MaxL w) (h : tolllaw07_FilterOnce.f k l0 a1 = some r) :
  Calls Tryd.prog 3 #[.slice A0 l0.length c0, .int .u8 a1] w fun e w' => e = .returned (.bool r) ∧ Below w.heap.size w w' := by
 have HGL := am_ hG
 clear hG
 have hu27 := Tryd.underlying27
 have HR0 := Aside0.mk hr0
 have HC0 := Aside0.mk hc0
 clear hr0 hc0
 have HB := am_ (Below.refl w.heap.size w)
 have H : ((tolllaw07_Few.f k l0).bind fun t217 => (if (t217.length : Int) = 0 then (tolllaw07_FilterOnce.j0 k t217 a1 true) else ((filter_All.f k t217).bind fun t220 => (tolllaw07_FilterOnce.j0 k t217 a1 (!t220))))) = some r := h
 clear h
 replace H := Option.bind_eq_some_iff.mp H
 obtain ⟨t217, A30, H⟩ := H
 replace H : (if (t217.length : Int) = 0 then (tolllaw07_FilterOnce.j0 k t217 a1 true) else ((filter_All.f k t217).bind fun t220 => (tolllaw07_FilterOnce.j0 k t217 a1 (!t220)))) = some r := H
 have A3 := Aside0.mk A30
 clear A30
 have HC4 := Aside0.mk H
 clear H
 go_enter Tryd.func3, Tryd.ntmps3
 go_upto_region 2 with (first | ((with_reducible refine gate_callee (f := 4) rfl ?_); refine goesL_ (some 10) rfl rfl Tryd.func4 kr_ rfl #[.slice A0 l0.length c0] rfl rl_ ?_; (with_reducible refine (tolllaw07_Few.calls k _ _ l0 t217 _ ?side1 ?side2 A3.out).mono ?_); (case side1 => exact C_ HR0.out); (case side2 => exact HC0.out); rintro e w5 ⟨v218, rfl, ho0, hb⟩; refine ⟨_, rfl, ?_⟩; have n0_ := am_ (Kd.R_lower ho0 (below_size (bel_ HB.out))); have n1_ := am_ (below_step (bel_ HB.out) hb); clear HB; have HO219 := n0_; have HB := n1_; clear n0_ n1_; (try clear hb); (try clear hb2); (try clear hk); (try clear hi); (try clear ho0)))
 (try simp only [Act.put, List.setIfInBounds_toArray, List.set_cons_zero, List.set_cons_succ])
 go_cut [18] (fun v18 wc => ∃ (kq : Nat) (x18_3 : Bool), v18 = .bool x18_3 ∧ Aside0 (tolllaw07_FilterOnce.j0 kq t217 a1 x18_3 = some r) ∧ Aside0 (kq ≤ k) ∧ Aside0 (Kd.R k27 27 wc w.heap.size (fun _ => True) v218 t217) ∧ Aside0 (Below w.heap.size w wc))
 case first =>
  have H := HC4.out
  clear HC4
  by_cases c6 : (t217.length : Int) = 0
  ·rw [if_pos c6] at H
   have c6b0 : ((t217.length : Int) == 0) = true := beq_iff_eq.mpr c6
   have c6b1 : ((t217.length : Int) != 0) = false := bne_eq_false_iff_eq.mpr c6
   clear c6
   (first | rw [c6b0] | rw [c6b1] | rw [c6b2] | (simp only [i64_w, i32_w]; rw [c6b0]) | skip)
   have H' := Aside0.mk H
   clear H
   obtain ⟨Ao7, co7, eo7⟩ := Kd.R_slice HO219.out
   subst eo7
   go_wp2
   go_meet
   case rel => exact ⟨_, (true), sd_, H', ⟨by first | omega | exact Nat.le_refl _⟩, ⟨by (with_reducible repeat (first | apply Kd.R_alloc | apply Kd.R_drewN | apply Kd.R_drew)); exact HO219.out⟩, ⟨bel_ HB.out⟩⟩
  ·rw [if_neg c6] at H
   have c6b0 : ((t217.length : Int) == 0) = false := beq_eq_false_iff_ne.mpr c6
   have c6b1 : ((t217.length : Int) != 0) = true := bne_iff_ne.mpr c6
   have c6b2 : ¬ (t217 = []) := fun h_ => c6 (by rw [h_]; rfl)
   (first | rw [c6b0] | rw [c6b1] | rw [c6b2] | (simp only [i64_w, i32_w]; rw [c6b0]) | skip)
   replace H := Option.bind_eq_some_iff.mp H
   obtain ⟨t220, A80, H⟩ := H
   replace H : (tolllaw07_FilterOnce.j0 k t217 a1 (!t220)) = some r := H
   have A8 := Aside0.mk A80
   clear A80
   have H' := Aside0.mk H
   clear H
   obtain ⟨Ao9, co9, eo9⟩ := Kd.R_slice HO219.out
   subst eo9
   go_wp2_with (first | (go_at_call 5; (with_reducible refine (filter_All.calls k _ _ t217 t220 _ ?side1 ?side2 A8.out).mono ?_); (case side1 => exact C_ (Kd.R_reads' HO219.out).2.2); (case side2 => exact (Kd.R_reads' HO219.out).2.1); rintro e w10 ⟨rfl, hb⟩; have n0_ := am_ (Kd.R_below (R_ HO219.out) hb); have n1_ := am_ (below_step (bel_ HB.out) hb); clear HO219 HB; have HO219 := n0_; have HB := n1_; clear n0_ n1_; (try clear hb); (try clear hb2); (try clear hk); (try clear hi)))
   go_meet
   case rel => exact ⟨_, (!t220), sd_, H', ⟨by first | omega | exact Nat.le_refl _⟩, ⟨by (with_reducible repeat (first | apply Kd.R_alloc | apply Kd.R_drewN | apply Kd.R_drew)); exact HO219.out⟩, ⟨bel_ HB.out⟩⟩
 case rest =>
  clear HC4
  try clear p2
  try clear c3
  try clear c4
  try clear c6
  try clear c6b0
  try clear c6b1
  try clear c6b2
  obtain ⟨kq, x18_3, rfl, HA, HJ3, HO_0, HB⟩ := hcut
  cases kq with
  | zero => exact absurd HA.out (by simp [tolllaw07_FilterOnce.j0])
  | succ kj3 =>
   have H := HA.out
   clear HA
   simp only [tolllaw07_FilterOnce.j0] at H
   by_cases c11 : x18_3 = true
   ·subst c11
    have H1 : ((filter_All.f kj3 ([] : List (S27))).bind fun t221 => (if t221 = true then ((tolllaw07_awake.f kj3).bind fun t222 => (some t222)) else (none))) = some r := by rw [if_pos rfl] at H; exact H
    clear H
    have H := H1
    clear H1
    replace H := Option.bind_eq_some_iff.mp H
    obtain ⟨t221, A120, H⟩ := H
    replace H : (if t221 = true then ((tolllaw07_awake.f kj3).bind fun t222 => (some t222)) else (none)) = some r := H
    have A12 := Aside0.mk A120
    clear A120
    by_cases c13 : t221 = true
    ·subst c13
     have H1 : ((tolllaw07_awake.f kj3).bind fun t222 => (some t222)) = some r := by rw [if_pos rfl] at H; exact H
     clear H
     have H := H1
     clear H1
     replace H := Option.bind_eq_some_iff.mp H
     obtain ⟨t222, A140, H⟩ := H
     replace H : (some t222) = some r := H
     have A14 := Aside0.mk A140
     clear A140
     obtain rfl := Option.some.inj H
     go_wp2_with (first | ((with_reducible refine gate_callee (f := 5) rfl ?_); refine goesL_ (some 19) rfl rfl Tryd.func5 kr_ rfl #[.slice none 0 0] rfl rl_ ?_; (refine (filter_All.calls kj3 _ _ ([] : List (S27)) true _ ?side1 ?side2 A12.out).mono ?_); (case side1 => exact Kd.C_nil _ _); (case side2 => exact Nat.le_refl _); rintro e w15 ⟨rfl, hb⟩; refine ⟨_, rfl, ?_⟩; have n0_ := am_ (Kd.R_below (R_ HO_0.out) hb); have n1_ := am_ (below_step (bel_ HB.out) hb); clear HO_0 HB; have HO_0 := n0_; have HB := n1_; clear n0_ n1_; (try clear hb); (try clear hb2); (try clear hk); (try clear hi)) | (go_at_call 6; (with_reducible refine (tolllaw07_awake.calls kj3  t222 _ (gm_ HGL.out (bel_ HB.out)) A14.out).mono ?_); rintro e w16 ⟨rfl, hb⟩; have n0_ := am_ (Kd.R_below (R_ HO_0.out) hb); have n1_ := am_ (below_step (bel_ HB.out) hb); clear HO_0 HB; have HO_0 := n0_; have HB := n1_; clear n0_ n1_; (try clear hb); (try clear hb2); (try clear hk); (try clear hi)))
     go_ret
     exact ⟨fi_, bel_ HB.out⟩
    ·replace c13 := Bool.eq_false_iff.mpr c13
     subst c13
     have H1 : (none) = some r := by rw [if_neg (show ¬ (false = true) by decide)] at H; exact H
     clear H
     have H := H1
     clear H1
     exact absurd H (by simp)
   ·replace c11 := Bool.eq_false_iff.mpr c11
    subst c11
    have H1 : (if (t217.length : Int) = 0 then (none) else ((some (([] : List (S27)) : List (S27))).bind fun y223 => (if 0 ≤ (Int.tmod (wrap64 (a1)) (t217.length : Int)) then (if (Int.tmod (wrap64 (a1)) (t217.length : Int)) ≤ (t217.length : Int) then ((some (t217.drop ((Int.tmod (wrap64 (a1)) (t217.length : Int)) : Int).toNat : List (S27))).bind fun y226 => (if y223.length + y226.length < 1466015503701 then ((some (y223 ++ y226 : List (S27))).bind fun y230 => ((some (t217.take ((Int.tmod (wrap64 (a1)) (t217.length : Int)) : Int).toNat : List (S27))).bind fun y233 => (if y230.length + y233.length < 1466015503701 then ((some (([] : List (S27)) : List (S27))).bind fun y240 => ((some (t217.take ((Int.tmod (wrap64 (a1)) (t217.length : Int)) : Int).toNat : List (S27))).bind fun y243 => (if y240.length + y243.length < 1466015503701 then ((some (y240 ++ y243 : List (S27))).bind fun y247 => (if 0 ≤ (wrap64 ((Int.tmod (wrap64 (a1)) (t217.length : Int)) + 1)) then (if (wrap64 ((Int.tmod (wrap64 (a1)) (t217.length : Int)) + 1)) ≤ (t217.length : Int) then ((some (t217.drop ((wrap64 ((Int.tmod (wrap64 (a1)) (t217.length : Int)) + 1)) : Int).toNat : List (S27))).bind fun y250 => (if y247.length + y250.length < 1466015503701 then ((some (([] : List (S27)) : List (S27))).bind fun y257 => (if y257.length + t217.length < 1466015503701 then ((some (y257 ++ t217 : List (S27))).bind fun y260 => (if (Int.tmod (wrap64 (a1)) (t217.length : Int)) < (t217.length : Int) then ((some (([(⟨(rd_T27 t217 (Int.tmod (wrap64 (a1)) (t217.length : Int))).f0, (rd_T27 t217 (Int.tmod (wrap64 (a1)) (t217.length : Int))).f1, (rd_T27 t217 (Int.tmod (wrap64 (a1)) (t217.length : Int))).f2, (rd_T27 t217 (Int.tmod (wrap64 (a1)) (t217.length : Int))).f3, (rd_T27 t217 (Int.tmod (wrap64 (a1)) (t217.length : Int))).f4, (rd_T27 t217 (Int.tmod (wrap64 (a1)) (t217.length : Int))).f5, (rd_T27 t217 (Int.tmod (wrap64 (a1)) (t217.length : Int))).f6, (rd_T27 t217 (Int.tmod (wrap64 (a1)) (t217.length : Int))).f7⟩ : S27)] : List (S27)) : List (S27))).bind fun y264 => (if y260.length + y264.length < 1466015503701 then ((filter_May.f kj3 ((rd_T27 t217 (Int.tmod (wrap64 (a1)) (t217.length : Int))).f0) ((rd_T27 t217 (Int.tmod (wrap64 (a1)) (t217.length : Int))).f1) ((rd_T27 t217 (Int.tmod (wrap64 (a1)) (t217.length : Int))).f2) ((rd_T27 t217 (Int.tmod (wrap64 (a1)) (t217.length : Int))).f3) ((rd_T27 t217 (Int.tmod (wrap64 (a1)) (t217.length : Int))).f4) ((rd_T27 t217 (Int.tmod (wrap64 (a1)) (t217.length : Int))).f5) ((rd_T27 t217 (Int.tmod (wrap64 (a1)) (t217.length : Int))).f6) ((rd_T27 t217 (Int.tmod (wrap64 (a1)) (t217.length : Int))).f7)).bind fun t271 => (if t271 = true then (if (Int.tmod (wrap64 (a1)) (t217.length : Int)) ≤ (wrap64 ((Int.tmod (wrap64 (a1)) (t217.length : Int)) + 1)) then ((filter_All.f kj3 ((t217.take ((wrap64 ((Int.tmod (wrap64 (a1)) (t217.length : Int)) + 1)) : Int).toNat).drop ((Int.tmod (wrap64 (a1)) (t217.length : Int)) : Int).toNat)).bind fun t276 => (if t276 = true then ((filter_All.f kj3 (y230 ++ y233)).bind fun t277 => (if t277 = true then ((filter_All.f kj3 (y247 ++ y250)).bind fun t278 => (if t278 = true then ((filter_All.f kj3 (y260 ++ y264)).bind fun t279 => (if t279 = true then (none) else ((tolllaw07_awake.f kj3).bind fun t280 => (some t280)))) else (none))) else (none))) else (none))) else (none)) else (none))) else (none))) else (none))) else (none))) else (none))) else (none)) else (none))) else (none)))) else (none)))) else (none))) else (none)) else (none)))) = some r := by rw [if_neg (show ¬ (false = true) by decide)] at H; exact H
    clear H
    have H := H1
    clear H1
    by_cases c17 : (t217.length : Int) = 0
    ·rw [if_pos c17] at H
     exact absurd H (by simp)
    ·rw [if_neg c17] at H
     have c17b0 : ((t217.length : Int) == 0) = false := beq_eq_false_iff_ne.mpr c17
     have c17b1 : ((t217.length : Int) != 0) = true := bne_iff_ne.mpr c17
     have c17b2 : ¬ (t217 = []) := fun h_ => c17 (by rw [h_]; rfl)
     obtain ⟨y223, hy223⟩ : ∃ y_ : List (S27), y_ = (([] : List (S27))) := ⟨_, rfl⟩
     replace H : (if 0 ≤ (Int.tmod (wrap64 (a1)) (t217.length : Int)) then (if (Int.tmod (wrap64 (a1)) (t217.length : Int)) ≤ (t217.length : Int) then ((some (t217.drop ((Int.tmod (wrap64 (a1)) (t217.length : Int)) : Int).toNat : List (S27))).bind fun y226 => (if y223.length + y226.length < 1466015503701 then ((some (y223 ++ y226 : List (S27))).bind fun y230 => ((some (t217.take ((Int.tmod (wrap64 (a1)) (t217.length : Int)) : Int).toNat : List (S27))).bind fun y233 => (if y230.length + y233.length < 1466015503701 then ((some (([] : List (S27)) : List (S27))).bind fun y240 => ((some (t217.take ((Int.tmod (wrap64 (a1)) (t217.length : Int)) : Int).toNat : List (S27))).bind fun y243 => (if y240.length + y243.length < 1466015503701 then ((some (y240 ++ y243 : List (S27))).bind fun y247 => (if 0 ≤ (wrap64 ((Int.tmod (wrap64 (a1)) (t217.length : Int)) + 1)) then (if (wrap64 ((Int.tmod (wrap64 (a1)) (t217.length : Int)) + 1)) ≤ (t217.length : Int) then ((some (t217.drop ((wrap64 ((Int.tmod (wrap64 (a1)) (t217.length : Int)) + 1)) : Int).toNat : List (S27))).bind fun y250 => (if y247.length + y250.length < 1466015503701 then ((some (([] : List (S27)) : List (S27))).bind fun y257 => (if y257.length + t217.length < 1466015503701 then ((some (y257 ++ t217 : List (S27))).bind fun y260 => (if (Int.tmod (wrap64 (a1)) (t217.length : Int)) < (t217.length : Int) then ((some (([(⟨(rd_T27 t217 (Int.tmod (wrap64 (a1)) (t217.length : Int))).f0, (rd_T27 t217 (Int.tmod (wrap64 (a1)) (t217.length : Int))).f1, (rd_T27 t217 (Int.tmod (wrap64 (a1)) (t217.length : Int))).f2, (rd_T27 t217 (Int.tmod (wrap64 (a1)) (t217.length : Int))).f3, (rd_T27 t217 (Int.tmod (wrap64 (a1)) (t217.length : Int))).f4, (rd_T27 t217 (Int.tmod (wrap64 (a1)) (t217.length : Int))).f5, (rd_T27 t217 (Int.tmod (wrap64 (a1)) (t217.length : Int))).f6, (rd_T27 t217 (Int.tmod (wrap64 (a1)) (t217.length : Int))).f7⟩ : S27)] : List (S27)) : List (S27))).bind fun y264 => (if y260.length + y264.length < 1466015503701 then ((filter_May.f kj3 ((rd_T27 t217 (Int.tmod (wrap64 (a1)) (t217.length : Int))).f0) ((rd_T27 t217 (Int.tmod (wrap64 (a1)) (t217.length : Int))).f1) ((rd_T27 t217 (Int.tmod (wrap64 (a1)) (t217.length : Int))).f2) ((rd_T27 t217 (Int.tmod (wrap64 (a1)) (t217.length : Int))).f3) ((rd_T27 t217 (Int.tmod (wrap64 (a1)) (t217.length : Int))).f4) ((rd_T27 t217 (Int.tmod (wrap64 (a1)) (t217.length : Int))).f5) ((rd_T27 t217 (Int.tmod (wrap64 (a1)) (t217.length : Int))).f6) ((rd_T27 t217 (Int.tmod (wrap64 (a1)) (t217.length : Int))).f7)).bind fun t271 => (if t271 = true then (if (Int.tmod (wrap64 (a1)) (t217.length : Int)) ≤ (wrap64 ((Int.tmod (wrap64 (a1)) (t217.length : Int)) + 1)) then ((filter_All.f kj3 ((t217.take ((wrap64 ((Int.tmod (wrap64 (a1)) (t217.length : Int)) + 1)) : Int).toNat).drop ((Int.tmod (wrap64 (a1)) (t217.length : Int)) : Int).toNat)).bind fun t276 => (if t276 = true then ((filter_All.f kj3 (y230 ++ y233)).bind fun t277 => (if t277 = true then ((filter_All.f kj3 (y247 ++ y250)).bind fun t278 => (if t278 = true then ((filter_All.f kj3 (y260 ++ y264)).bind fun t279 => (if t279 = true then (none) else ((tolllaw07_awake.f kj3).bind fun t280 => (some t280)))) else (none))) else (none))) else (none))) else (none)) else (none))) else (none))) else (none))) else (none))) else (none))) else (none)) else (none))) else (none)))) else (none)))) else (none))) else (none)) else (none)) = some r := by first | (rw [hy223]; with_reducible exact H) | (have H2_ := (Option.bind_some _ _).symm.trans H; rw [hy223]; with_reducible exact H2_) | (have H2_ := (Option.bind_some _ _).symm.trans H; with_reducible exact H2_) | with_reducible exact H | (rw [hy223]; exact H) | exact H
     have Ny223 := Aside0.mk hy223
     clear hy223
     obtain ⟨ji18, hji18⟩ : ∃ j_ : Int, (Int.tmod (wrap64 (a1)) (t217.length : Int)) = j_ := ⟨_, rfl⟩
     replace H : (if 0 ≤ (ji18) then (if (ji18) ≤ (t217.length : Int) then ((some (t217.drop ((ji18) : Int).toNat : List (S27))).bind fun y226 => (if y223.length + y226.length < 1466015503701 then ((some (y223 ++ y226 : List (S27))).bind fun y230 => ((some (t217.take ((ji18) : Int).toNat : List (S27))).bind fun y233 => (if y230.length + y233.length < 1466015503701 then ((some (([] : List (S27)) : List (S27))).bind fun y240 => ((some (t217.take ((ji18) : Int).toNat : List (S27))).bind fun y243 => (if y240.length + y243.length < 1466015503701 then ((some (y240 ++ y243 : List (S27))).bind fun y247 => (if 0 ≤ (wrap64 ((ji18) + 1)) then (if (wrap64 ((ji18) + 1)) ≤ (t217.length : Int) then ((some (t217.drop ((wrap64 ((ji18) + 1)) : Int).toNat : List (S27))).bind fun y250 => (if y247.length + y250.length < 1466015503701 then ((some (([] : List (S27)) : List (S27))).bind fun y257 => (if y257.length + t217.length < 1466015503701 then ((some (y257 ++ t217 : List (S27))).bind fun y260 => (if (ji18) < (t217.length : Int) then ((some (([(⟨(rd_T27 t217 (ji18)).f0, (rd_T27 t217 (ji18)).f1, (rd_T27 t217 (ji18)).f2, (rd_T27 t217 (ji18)).f3, (rd_T27 t217 (ji18)).f4, (rd_T27 t217 (ji18)).f5, (rd_T27 t217 (ji18)).f6, (rd_T27 t217 (ji18)).f7⟩ : S27)] : List (S27)) : List (S27))).bind fun y264 => (if y260.length + y264.length < 1466015503701 then ((filter_May.f kj3 ((rd_T27 t217 (ji18)).f0) ((rd_T27 t217 (ji18)).f1) ((rd_T27 t217 (ji18)).f2) ((rd_T27 t217 (ji18)).f3) ((rd_T27 t217 (ji18)).f4) ((rd_T27 t217 (ji18)).f5) ((rd_T27 t217 (ji18)).f6) ((rd_T27 t217 (ji18)).f7)).bind fun t271 => (if t271 = true then (if (ji18) ≤ (wrap64 ((ji18) + 1)) then ((filter_All.f kj3 ((t217.take ((wrap64 ((ji18) + 1)) : Int).toNat).drop ((ji18) : Int).toNat)).bind fun t276 => (if t276 = true then ((filter_All.f kj3 (y230 ++ y233)).bind fun t277 => (if t277 = true then ((filter_All.f kj3 (y247 ++ y250)).bind fun t278 => (if t278 = true then ((filter_All.f kj3 (y260 ++ y264)).bind fun t279 => (if t279 = true then (none) else ((tolllaw07_awake.f kj3).bind fun t280 => (some t280)))) else (none))) else (none))) else (none))) else (none)) else (none))) else (none))) else (none))) else (none))) else (none))) else (none)) else (none))) else (none)))) else (none)))) else (none))) else (none)) else (none)) = some r := by first | (rw [hji18] at H; exact H) | (simp only [hji18] at H ⊢; exact H)
     by_cases c19 : 0 ≤ (ji18)
     ·rw [if_pos c19] at H
      have c19b0 := eq_true c19
      have c19b1 : decide (0 ≤ (ji18)) = true := decide_eq_true c19
      clear c19
      by_cases c20 : (ji18) ≤ (t217.length : Int)
      ·rw [if_pos c20] at H
       have c20b0 := eq_true c20
       have c20b1 : decide ((ji18) ≤ (t217.length : Int)) = true := decide_eq_true c20
       clear c20
       obtain ⟨y226, hy226⟩ : ∃ y_ : List (S27), y_ = (t217.drop ((ji18) : Int).toNat) := ⟨_, rfl⟩
       replace H : (if y223.length + y226.length < 1466015503701 then ((some (y223 ++ y226 : List (S27))).bind fun y230 => ((some (t217.take ((ji18) : Int).toNat : List (S27))).bind fun y233 => (if y230.length + y233.length < 1466015503701 then ((some (([] : List (S27)) : List (S27))).bind fun y240 => ((some (t217.take ((ji18) : Int).toNat : List (S27))).bind fun y243 => (if y240.length + y243.length < 1466015503701 then ((some (y240 ++ y243 : List (S27))).bind fun y247 => (if 0 ≤ (wrap64 ((ji18) + 1)) then (if (wrap64 ((ji18) + 1)) ≤ (t217.length : Int) then ((some (t217.drop ((wrap64 ((ji18) + 1)) : Int).toNat : List (S27))).bind fun y250 => (if y247.length + y250.length < 1466015503701 then ((some (([] : List (S27)) : List (S27))).bind fun y257 => (if y257.length + t217.length < 1466015503701 then ((some (y257 ++ t217 : List (S27))).bind fun y260 => (if (ji18) < (t217.length : Int) then ((some (([(⟨(rd_T27 t217 (ji18)).f0, (rd_T27 t217 (ji18)).f1, (rd_T27 t217 (ji18)).f2, (rd_T27 t217 (ji18)).f3, (rd_T27 t217 (ji18)).f4, (rd_T27 t217 (ji18)).f5, (rd_T27 t217 (ji18)).f6, (rd_T27 t217 (ji18)).f7⟩ : S27)] : List (S27)) : List (S27))).bind fun y264 => (if y260.length + y264.length < 1466015503701 then ((filter_May.f kj3 ((rd_T27 t217 (ji18)).f0) ((rd_T27 t217 (ji18)).f1) ((rd_T27 t217 (ji18)).f2) ((rd_T27 t217 (ji18)).f3) ((rd_T27 t217 (ji18)).f4) ((rd_T27 t217 (ji18)).f5) ((rd_T27 t217 (ji18)).f6) ((rd_T27 t217 (ji18)).f7)).bind fun t271 => (if t271 = true then (if (ji18) ≤ (wrap64 ((ji18) + 1)) then ((filter_All.f kj3 ((t217.take ((wrap64 ((ji18) + 1)) : Int).toNat).drop ((ji18) : Int).toNat)).bind fun t276 => (if t276 = true then ((filter_All.f kj3 (y230 ++ y233)).bind fun t277 => (if t277 = true then ((filter_All.f kj3 (y247 ++ y250)).bind fun t278 => (if t278 = true then ((filter_All.f kj3 (y260 ++ y264)).bind fun t279 => (if t279 = true then (none) else ((tolllaw07_awake.f kj3).bind fun t280 => (some t280)))) else (none))) else (none))) else (none))) else (none)) else (none))) else (none))) else (none))) else (none))) else (none))) else (none)) else (none))) else (none)))) else (none)))) else (none)) = some r := by first | (rw [hy226]; with_reducible exact H) | (have H2_ := (Option.bind_some _ _).symm.trans H; rw [hy226]; with_reducible exact H2_) | (have H2_ := (Option.bind_some _ _).symm.trans H; with_reducible exact H2_) | with_reducible exact H | (rw [hy226]; exact H) | exact H
       have Ny226 := Aside0.mk hy226
       clear hy226
       by_cases c21 : y223.length + y226.length < 1466015503701
       ·rw [if_pos c21] at H
        have LMc21 := Aside0.mk c21
        clear c21
        obtain ⟨y230, hy230⟩ : ∃ y_ : List (S27), y_ = (y223 ++ y226) := ⟨_, rfl⟩
        replace H : ((some (t217.take ((ji18) : Int).toNat : List (S27))).bind fun y233 => (if y230.length + y233.length < 1466015503701 then ((some (([] : List (S27)) : List (S27))).bind fun y240 => ((some (t217.take ((ji18) : Int).toNat : List (S27))).bind fun y243 => (if y240.length + y243.length < 1466015503701 then ((some (y240 ++ y243 : List (S27))).bind fun y247 => (if 0 ≤ (wrap64 ((ji18) + 1)) then (if (wrap64 ((ji18) + 1)) ≤ (t217.length : Int) then ((some (t217.drop ((wrap64 ((ji18) + 1)) : Int).toNat : List (S27))).bind fun y250 => (if y247.length + y250.length < 1466015503701 then ((some (([] : List (S27)) : List (S27))).bind fun y257 => (if y257.length + t217.length < 1466015503701 then ((some (y257 ++ t217 : List (S27))).bind fun y260 => (if (ji18) < (t217.length : Int) then ((some (([(⟨(rd_T27 t217 (ji18)).f0, (rd_T27 t217 (ji18)).f1, (rd_T27 t217 (ji18)).f2, (rd_T27 t217 (ji18)).f3, (rd_T27 t217 (ji18)).f4, (rd_T27 t217 (ji18)).f5, (rd_T27 t217 (ji18)).f6, (rd_T27 t217 (ji18)).f7⟩ : S27)] : List (S27)) : List (S27))).bind fun y264 => (if y260.length + y264.length < 1466015503701 then ((filter_May.f kj3 ((rd_T27 t217 (ji18)).f0) ((rd_T27 t217 (ji18)).f1) ((rd_T27 t217 (ji18)).f2) ((rd_T27 t217 (ji18)).f3) ((rd_T27 t217 (ji18)).f4) ((rd_T27 t217 (ji18)).f5) ((rd_T27 t217 (ji18)).f6) ((rd_T27 t217 (ji18)).f7)).bind fun t271 => (if t271 = true then (if (ji18) ≤ (wrap64 ((ji18) + 1)) then ((filter_All.f kj3 ((t217.take ((wrap64 ((ji18) + 1)) : Int).toNat).drop ((ji18) : Int).toNat)).bind fun t276 => (if t276 = true then ((filter_All.f kj3 (y230 ++ y233)).bind fun t277 => (if t277 = true then ((filter_All.f kj3 (y247 ++ y250)).bind fun t278 => (if t278 = true then ((filter_All.f kj3 (y260 ++ y264)).bind fun t279 => (if t279 = true then (none) else ((tolllaw07_awake.f kj3).bind fun t280 => (some t280)))) else (none))) else (none))) else (none))) else (none)) else (none))) else (none))) else (none))) else (none))) else (none))) else (none)) else (none))) else (none)))) else (none))) = some r := by first | (rw [hy230]; with_reducible exact H) | (have H2_ := (Option.bind_some _ _).symm.trans H; rw [hy230]; with_reducible exact H2_) | (have H2_ := (Option.bind_some _ _).symm.trans H; with_reducible exact H2_) | with_reducible exact H | (rw [hy230]; exact H) | exact H
        have Ny230 := Aside0.mk hy230
        clear hy230
        have c22b0 := eq_true (of_decide_eq_true as_ : 0 ≤ (ji18))
        have c23b0 := eq_true (of_decide_eq_true as_ : (ji18) ≤ (t217.length : Int))
        obtain ⟨y233, hy233⟩ : ∃ y_ : List (S27), y_ = (t217.take ((ji18) : Int).toNat) := ⟨_, rfl⟩
        replace H : (if y230.length + y233.length < 1466015503701 then ((some (([] : List (S27)) : List (S27))).bind fun y240 => ((some (t217.take ((ji18) : Int).toNat : List (S27))).bind fun y243 => (if y240.length + y243.length < 1466015503701 then ((some (y240 ++ y243 : List (S27))).bind fun y247 => (if 0 ≤ (wrap64 ((ji18) + 1)) then (if (wrap64 ((ji18) + 1)) ≤ (t217.length : Int) then ((some (t217.drop ((wrap64 ((ji18) + 1)) : Int).toNat : List (S27))).bind fun y250 => (if y247.length + y250.length < 1466015503701 then ((some (([] : List (S27)) : List (S27))).bind fun y257 => (if y257.length + t217.length < 1466015503701 then ((some (y257 ++ t217 : List (S27))).bind fun y260 => (if (ji18) < (t217.length : Int) then ((some (([(⟨(rd_T27 t217 (ji18)).f0, (rd_T27 t217 (ji18)).f1, (rd_T27 t217 (ji18)).f2, (rd_T27 t217 (ji18)).f3, (rd_T27 t217 (ji18)).f4, (rd_T27 t217 (ji18)).f5, (rd_T27 t217 (ji18)).f6, (rd_T27 t217 (ji18)).f7⟩ : S27)] : List (S27)) : List (S27))).bind fun y264 => (if y260.length + y264.length < 1466015503701 then ((filter_May.f kj3 ((rd_T27 t217 (ji18)).f0) ((rd_T27 t217 (ji18)).f1) ((rd_T27 t217 (ji18)).f2) ((rd_T27 t217 (ji18)).f3) ((rd_T27 t217 (ji18)).f4) ((rd_T27 t217 (ji18)).f5) ((rd_T27 t217 (ji18)).f6) ((rd_T27 t217 (ji18)).f7)).bind fun t271 => (if t271 = true then (if (ji18) ≤ (wrap64 ((ji18) + 1)) then ((filter_All.f kj3 ((t217.take ((wrap64 ((ji18) + 1)) : Int).toNat).drop ((ji18) : Int).toNat)).bind fun t276 => (if t276 = true then ((filter_All.f kj3 (y230 ++ y233)).bind fun t277 => (if t277 = true then ((filter_All.f kj3 (y247 ++ y250)).bind fun t278 => (if t278 = true then ((filter_All.f kj3 (y260 ++ y264)).bind fun t279 => (if t279 = true then (none) else ((tolllaw07_awake.f kj3).bind fun t280 => (some t280)))) else (none))) else (none))) else (none))) else (none)) else (none))) else (none))) else (none))) else (none))) else (none))) else (none)) else (none))) else (none)))) else (none)) = some r := by first | (rw [hy233]; with_reducible exact H) | (have H2_ := (Option.bind_some _ _).symm.trans H; rw [hy233]; with_reducible exact H2_) | (have H2_ := (Option.bind_some _ _).symm.trans H; with_reducible exact H2_) | with_reducible exact H | (rw [hy233]; exact H) | exact H
        have Ny233 := Aside0.mk hy233
        clear hy233
        by_cases c24 : y230.length + y233.length < 1466015503701
        ·rw [if_pos c24] at H
         have LMc24 := Aside0.mk c24
         clear c24
         obtain ⟨y237, hy237⟩ : ∃ y_ : List (S27), y_ = (y230 ++ y233) := ⟨_, rfl⟩
         replace H : ((some (([] : List (S27)) : List (S27))).bind fun y240 => ((some (t217.take ((ji18) : Int).toNat : List (S27))).bind fun y243 => (if y240.length + y243.length < 1466015503701 then ((some (y240 ++ y243 : List (S27))).bind fun y247 => (if 0 ≤ (wrap64 ((ji18) + 1)) then (if (wrap64 ((ji18) + 1)) ≤ (t217.length : Int) then ((some (t217.drop ((wrap64 ((ji18) + 1)) : Int).toNat : List (S27))).bind fun y250 => (if y247.length + y250.length < 1466015503701 then ((some (([] : List (S27)) : List (S27))).bind fun y257 => (if y257.length + t217.length < 1466015503701 then ((some (y257 ++ t217 : List (S27))).bind fun y260 => (if (ji18) < (t217.length : Int) then ((some (([(⟨(rd_T27 t217 (ji18)).f0, (rd_T27 t217 (ji18)).f1, (rd_T27 t217 (ji18)).f2, (rd_T27 t217 (ji18)).f3, (rd_T27 t217 (ji18)).f4, (rd_T27 t217 (ji18)).f5, (rd_T27 t217 (ji18)).f6, (rd_T27 t217 (ji18)).f7⟩ : S27)] : List (S27)) : List (S27))).bind fun y264 => (if y260.length + y264.length < 1466015503701 then ((filter_May.f kj3 ((rd_T27 t217 (ji18)).f0) ((rd_T27 t217 (ji18)).f1) ((rd_T27 t217 (ji18)).f2) ((rd_T27 t217 (ji18)).f3) ((rd_T27 t217 (ji18)).f4) ((rd_T27 t217 (ji18)).f5) ((rd_T27 t217 (ji18)).f6) ((rd_T27 t217 (ji18)).f7)).bind fun t271 => (if t271 = true then (if (ji18) ≤ (wrap64 ((ji18) + 1)) then ((filter_All.f kj3 ((t217.take ((wrap64 ((ji18) + 1)) : Int).toNat).drop ((ji18) : Int).toNat)).bind fun t276 => (if t276 = true then ((filter_All.f kj3 y237).bind fun t277 => (if t277 = true then ((filter_All.f kj3 (y247 ++ y250)).bind fun t278 => (if t278 = true then ((filter_All.f kj3 (y260 ++ y264)).bind fun t279 => (if t279 = true then (none) else ((tolllaw07_awake.f kj3).bind fun t280 => (some t280)))) else (none))) else (none))) else (none))) else (none)) else (none))) else (none))) else (none))) else (none))) else (none))) else (none)) else (none))) else (none)))) = some r := by first | (rw [hy237]; with_reducible exact H) | (have H2_ := (Option.bind_some _ _).symm.trans H; rw [hy237]; with_reducible exact H2_) | (have H2_ := (Option.bind_some _ _).symm.trans H; with_reducible exact H2_) | with_reducible exact H | (rw [hy237]; exact H) | exact H
         have Ny237 := Aside0.mk hy237
         clear hy237
         obtain ⟨y240, hy240⟩ : ∃ y_ : List (S27), y_ = (([] : List (S27))) := ⟨_, rfl⟩
         replace H : ((some (t217.take ((ji18) : Int).toNat : List (S27))).bind fun y243 => (if y240.length + y243.length < 1466015503701 then ((some (y240 ++ y243 : List (S27))).bind fun y247 => (if 0 ≤ (wrap64 ((ji18) + 1)) then (if (wrap64 ((ji18) + 1)) ≤ (t217.length : Int) then ((some (t217.drop ((wrap64 ((ji18) + 1)) : Int).toNat : List (S27))).bind fun y250 => (if y247.length + y250.length < 1466015503701 then ((some (([] : List (S27)) : List (S27))).bind fun y257 => (if y257.length + t217.length < 1466015503701 then ((some (y257 ++ t217 : List (S27))).bind fun y260 => (if (ji18) < (t217.length : Int) then ((some (([(⟨(rd_T27 t217 (ji18)).f0, (rd_T27 t217 (ji18)).f1, (rd_T27 t217 (ji18)).f2, (rd_T27 t217 (ji18)).f3, (rd_T27 t217 (ji18)).f4, (rd_T27 t217 (ji18)).f5, (rd_T27 t217 (ji18)).f6, (rd_T27 t217 (ji18)).f7⟩ : S27)] : List (S27)) : List (S27))).bind fun y264 => (if y260.length + y264.length < 1466015503701 then ((filter_May.f kj3 ((rd_T27 t217 (ji18)).f0) ((rd_T27 t217 (ji18)).f1) ((rd_T27 t217 (ji18)).f2) ((rd_T27 t217 (ji18)).f3) ((rd_T27 t217 (ji18)).f4) ((rd_T27 t217 (ji18)).f5) ((rd_T27 t217 (ji18)).f6) ((rd_T27 t217 (ji18)).f7)).bind fun t271 => (if t271 = true then (if (ji18) ≤ (wrap64 ((ji18) + 1)) then ((filter_All.f kj3 ((t217.take ((wrap64 ((ji18) + 1)) : Int).toNat).drop ((ji18) : Int).toNat)).bind fun t276 => (if t276 = true then ((filter_All.f kj3 y237).bind fun t277 => (if t277 = true then ((filter_All.f kj3 (y247 ++ y250)).bind fun t278 => (if t278 = true then ((filter_All.f kj3 (y260 ++ y264)).bind fun t279 => (if t279 = true then (none) else ((tolllaw07_awake.f kj3).bind fun t280 => (some t280)))) else (none))) else (none))) else (none))) else (none)) else (none))) else (none))) else (none))) else (none))) else (none))) else (none)) else (none))) else (none))) = some r := by first | (rw [hy240]; with_reducible exact H) | (have H2_ := (Option.bind_some _ _).symm.trans H; rw [hy240]; with_reducible exact H2_) | (have H2_ := (Option.bind_some _ _).symm.trans H; with_reducible exact H2_) | with_reducible exact H | (rw [hy240]; exact H) | exact H
         have Ny240 := Aside0.mk hy240
         clear hy240
         have c25b0 := eq_true (of_decide_eq_true as_ : 0 ≤ (ji18))
         have c26b0 := eq_true (of_decide_eq_true as_ : (ji18) ≤ (t217.length : Int))
         obtain ⟨y243, hy243⟩ : ∃ y_ : List (S27), y_ = (t217.take ((ji18) : Int).toNat) := ⟨_, rfl⟩
         replace H : (if y240.length + y243.length < 1466015503701 then ((some (y240 ++ y243 : List (S27))).bind fun y247 => (if 0 ≤ (wrap64 ((ji18) + 1)) then (if (wrap64 ((ji18) + 1)) ≤ (t217.length : Int) then ((some (t217.drop ((wrap64 ((ji18) + 1)) : Int).toNat : List (S27))).bind fun y250 => (if y247.length + y250.length < 1466015503701 then ((some (([] : List (S27)) : List (S27))).bind fun y257 => (if y257.length + t217.length < 1466015503701 then ((some (y257 ++ t217 : List (S27))).bind fun y260 => (if (ji18) < (t217.length : Int) then ((some (([(⟨(rd_T27 t217 (ji18)).f0, (rd_T27 t217 (ji18)).f1, (rd_T27 t217 (ji18)).f2, (rd_T27 t217 (ji18)).f3, (rd_T27 t217 (ji18)).f4, (rd_T27 t217 (ji18)).f5, (rd_T27 t217 (ji18)).f6, (rd_T27 t217 (ji18)).f7⟩ : S27)] : List (S27)) : List (S27))).bind fun y264 => (if y260.length + y264.length < 1466015503701 then ((filter_May.f kj3 ((rd_T27 t217 (ji18)).f0) ((rd_T27 t217 (ji18)).f1) ((rd_T27 t217 (ji18)).f2) ((rd_T27 t217 (ji18)).f3) ((rd_T27 t217 (ji18)).f4) ((rd_T27 t217 (ji18)).f5) ((rd_T27 t217 (ji18)).f6) ((rd_T27 t217 (ji18)).f7)).bind fun t271 => (if t271 = true then (if (ji18) ≤ (wrap64 ((ji18) + 1)) then ((filter_All.f kj3 ((t217.take ((wrap64 ((ji18) + 1)) : Int).toNat).drop ((ji18) : Int).toNat)).bind fun t276 => (if t276 = true then ((filter_All.f kj3 y237).bind fun t277 => (if t277 = true then ((filter_All.f kj3 (y247 ++ y250)).bind fun t278 => (if t278 = true then ((filter_All.f kj3 (y260 ++ y264)).bind fun t279 => (if t279 = true then (none) else ((tolllaw07_awake.f kj3).bind fun t280 => (some t280)))) else (none))) else (none))) else (none))) else (none)) else (none))) else (none))) else (none))) else (none))) else (none))) else (none)) else (none))) else (none)) = some r := by first | (rw [hy243]; with_reducible exact H) | (have H2_ := (Option.bind_some _ _).symm.trans H; rw [hy243]; with_reducible exact H2_) | (have H2_ := (Option.bind_some _ _).symm.trans H; with_reducible exact H2_) | with_reducible exact H | (rw [hy243]; exact H) | exact H
         have Ny243 := Aside0.mk hy243
         clear hy243
         by_cases c27 : y240.length + y243.length < 1466015503701
         ·rw [if_pos c27] at H
          have LMc27 := Aside0.mk c27
          clear c27
          obtain ⟨y247, hy247⟩ : ∃ y_ : List (S27), y_ = (y240 ++ y243) := ⟨_, rfl⟩
          replace H : (if 0 ≤ (wrap64 ((ji18) + 1)) then (if (wrap64 ((ji18) + 1)) ≤ (t217.length : Int) then ((some (t217.drop ((wrap64 ((ji18) + 1)) : Int).toNat : List (S27))).bind fun y250 => (if y247.length + y250.length < 1466015503701 then ((some (([] : List (S27)) : List (S27))).bind fun y257 => (if y257.length + t217.length < 1466015503701 then ((some (y257 ++ t217 : List (S27))).bind fun y260 => (if (ji18) < (t217.length : Int) then ((some (([(⟨(rd_T27 t217 (ji18)).f0, (rd_T27 t217 (ji18)).f1, (rd_T27 t217 (ji18)).f2, (rd_T27 t217 (ji18)).f3, (rd_T27 t217 (ji18)).f4, (rd_T27 t217 (ji18)).f5, (rd_T27 t217 (ji18)).f6, (rd_T27 t217 (ji18)).f7⟩ : S27)] : List (S27)) : List (S27))).bind fun y264 => (if y260.length + y264.length < 1466015503701 then ((filter_May.f kj3 ((rd_T27 t217 (ji18)).f0) ((rd_T27 t217 (ji18)).f1) ((rd_T27 t217 (ji18)).f2) ((rd_T27 t217 (ji18)).f3) ((rd_T27 t217 (ji18)).f4) ((rd_T27 t217 (ji18)).f5) ((rd_T27 t217 (ji18)).f6) ((rd_T27 t217 (ji18)).f7)).bind fun t271 => (if t271 = true then (if (ji18) ≤ (wrap64 ((ji18) + 1)) then ((filter_All.f kj3 ((t217.take ((wrap64 ((ji18) + 1)) : Int).toNat).drop ((ji18) : Int).toNat)).bind fun t276 => (if t276 = true then ((filter_All.f kj3 y237).bind fun t277 => (if t277 = true then ((filter_All.f kj3 (y247 ++ y250)).bind fun t278 => (if t278 = true then ((filter_All.f kj3 (y260 ++ y264)).bind fun t279 => (if t279 = true then (none) else ((tolllaw07_awake.f kj3).bind fun t280 => (some t280)))) else (none))) else (none))) else (none))) else (none)) else (none))) else (none))) else (none))) else (none))) else (none))) else (none)) else (none)) = some r := by first | (rw [hy247]; with_reducible exact H) | (have H2_ := (Option.bind_some _ _).symm.trans H; rw [hy247]; with_reducible exact H2_) | (have H2_ := (Option.bind_some _ _).symm.trans H; with_reducible exact H2_) | with_reducible exact H | (rw [hy247]; exact H) | exact H
          have Ny247 := Aside0.mk hy247
          clear hy247
          obtain ⟨ji28, hji28⟩ : ∃ j_ : Int, (wrap64 ((ji18) + 1)) = j_ := ⟨_, rfl⟩
          replace H : (if 0 ≤ (ji28) then (if (ji28) ≤ (t217.length : Int) then ((some (t217.drop ((ji28) : Int).toNat : List (S27))).bind fun y250 => (if y247.length + y250.length < 1466015503701 then ((some (([] : List (S27)) : List (S27))).bind fun y257 => (if y257.length + t217.length < 1466015503701 then ((some (y257 ++ t217 : List (S27))).bind fun y260 => (if (ji18) < (t217.length : Int) then ((some (([(⟨(rd_T27 t217 (ji18)).f0, (rd_T27 t217 (ji18)).f1, (rd_T27 t217 (ji18)).f2, (rd_T27 t217 (ji18)).f3, (rd_T27 t217 (ji18)).f4, (rd_T27 t217 (ji18)).f5, (rd_T27 t217 (ji18)).f6, (rd_T27 t217 (ji18)).f7⟩ : S27)] : List (S27)) : List (S27))).bind fun y264 => (if y260.length + y264.length < 1466015503701 then ((filter_May.f kj3 ((rd_T27 t217 (ji18)).f0) ((rd_T27 t217 (ji18)).f1) ((rd_T27 t217 (ji18)).f2) ((rd_T27 t217 (ji18)).f3) ((rd_T27 t217 (ji18)).f4) ((rd_T27 t217 (ji18)).f5) ((rd_T27 t217 (ji18)).f6) ((rd_T27 t217 (ji18)).f7)).bind fun t271 => (if t271 = true then (if (ji18) ≤ (ji28) then ((filter_All.f kj3 ((t217.take ((ji28) : Int).toNat).drop ((ji18) : Int).toNat)).bind fun t276 => (if t276 = true then ((filter_All.f kj3 y237).bind fun t277 => (if t277 = true then ((filter_All.f kj3 (y247 ++ y250)).bind fun t278 => (if t278 = true then ((filter_All.f kj3 (y260 ++ y264)).bind fun t279 => (if t279 = true then (none) else ((tolllaw07_awake.f kj3).bind fun t280 => (some t280)))) else (none))) else (none))) else (none))) else (none)) else (none))) else (none))) else (none))) else (none))) else (none))) else (none)) else (none)) = some r := by first | (rw [hji28] at H; exact H) | (simp only [hji28] at H ⊢; exact H)
          have hji28w : (IntKind.i64.wrap ((ji18) + 1)) = ji28 := (i64_w _).trans hji28
          by_cases c29 : 0 ≤ (ji28)
          ·rw [if_pos c29] at H
           have c29b0 := eq_true c29
           have c29b1 : decide (0 ≤ (ji28)) = true := decide_eq_true c29
           clear c29
           by_cases c30 : (ji28) ≤ (t217.length : Int)
           ·rw [if_pos c30] at H
            have c30b0 := eq_true c30
            have c30b1 : decide ((ji28) ≤ (t217.length : Int)) = true := decide_eq_true c30
            clear c30
            obtain ⟨y250, hy250⟩ : ∃ y_ : List (S27), y_ = (t217.drop ((ji28) : Int).toNat) := ⟨_, rfl⟩
            replace H : (if y247.length + y250.length < 1466015503701 then ((some (([] : List (S27)) : List (S27))).bind fun y257 => (if y257.length + t217.length < 1466015503701 then ((some (y257 ++ t217 : List (S27))).bind fun y260 => (if (ji18) < (t217.length : Int) then ((some (([(⟨(rd_T27 t217 (ji18)).f0, (rd_T27 t217 (ji18)).f1, (rd_T27 t217 (ji18)).f2, (rd_T27 t217 (ji18)).f3, (rd_T27 t217 (ji18)).f4, (rd_T27 t217 (ji18)).f5, (rd_T27 t217 (ji18)).f6, (rd_T27 t217 (ji18)).f7⟩ : S27)] : List (S27)) : List (S27))).bind fun y264 => (if y260.length + y264.length < 1466015503701 then ((filter_May.f kj3 ((rd_T27 t217 (ji18)).f0) ((rd_T27 t217 (ji18)).f1) ((rd_T27 t217 (ji18)).f2) ((rd_T27 t217 (ji18)).f3) ((rd_T27 t217 (ji18)).f4) ((rd_T27 t217 (ji18)).f5) ((rd_T27 t217 (ji18)).f6) ((rd_T27 t217 (ji18)).f7)).bind fun t271 => (if t271 = true then (if (ji18) ≤ (ji28) then ((filter_All.f kj3 ((t217.take ((ji28) : Int).toNat).drop ((ji18) : Int).toNat)).bind fun t276 => (if t276 = true then ((filter_All.f kj3 y237).bind fun t277 => (if t277 = true then ((filter_All.f kj3 (y247 ++ y250)).bind fun t278 => (if t278 = true then ((filter_All.f kj3 (y260 ++ y264)).bind fun t279 => (if t279 = true then (none) else ((tolllaw07_awake.f kj3).bind fun t280 => (some t280)))) else (none))) else (none))) else (none))) else (none)) else (none))) else (none))) else (none))) else (none))) else (none)) = some r := by first | (rw [hy250]; with_reducible exact H) | (have H2_ := (Option.bind_some _ _).symm.trans H; rw [hy250]; with_reducible exact H2_) | (have H2_ := (Option.bind_some _ _).symm.trans H; with_reducible exact H2_) | with_reducible exact H | (rw [hy250]; exact H) | exact H
            have Ny250 := Aside0.mk hy250
            clear hy250
            by_cases c31 : y247.length + y250.length < 1466015503701
            ·rw [if_pos c31] at H
             have LMc31 := Aside0.mk c31
             clear c31
             obtain ⟨y254, hy254⟩ : ∃ y_ : List (S27), y_ = (y247 ++ y250) := ⟨_, rfl⟩
             replace H : ((some (([] : List (S27)) : List (S27))).bind fun y257 => (if y257.length + t217.length < 1466015503701 then ((some (y257 ++ t217 : List (S27))).bind fun y260 => (if (ji18) < (t217.length : Int) then ((some (([(⟨(rd_T27 t217 (ji18)).f0, (rd_T27 t217 (ji18)).f1, (rd_T27 t217 (ji18)).f2, (rd_T27 t217 (ji18)).f3, (rd_T27 t217 (ji18)).f4, (rd_T27 t217 (ji18)).f5, (rd_T27 t217 (ji18)).f6, (rd_T27 t217 (ji18)).f7⟩ : S27)] : List (S27)) : List (S27))).bind fun y264 => (if y260.length + y264.length < 1466015503701 then ((filter_May.f kj3 ((rd_T27 t217 (ji18)).f0) ((rd_T27 t217 (ji18)).f1) ((rd_T27 t217 (ji18)).f2) ((rd_T27 t217 (ji18)).f3) ((rd_T27 t217 (ji18)).f4) ((rd_T27 t217 (ji18)).f5) ((rd_T27 t217 (ji18)).f6) ((rd_T27 t217 (ji18)).f7)).bind fun t271 => (if t271 = true then (if (ji18) ≤ (ji28) then ((filter_All.f kj3 ((t217.take ((ji28) : Int).toNat).drop ((ji18) : Int).toNat)).bind fun t276 => (if t276 = true then ((filter_All.f kj3 y237).bind fun t277 => (if t277 = true then ((filter_All.f kj3 y254).bind fun t278 => (if t278 = true then ((filter_All.f kj3 (y260 ++ y264)).bind fun t279 => (if t279 = true then (none) else ((tolllaw07_awake.f kj3).bind fun t280 => (some t280)))) else (none))) else (none))) else (none))) else (none)) else (none))) else (none))) else (none))) else (none))) = some r := by first | (rw [hy254]; with_reducible exact H) | (have H2_ := (Option.bind_some _ _).symm.trans H; rw [hy254]; with_reducible exact H2_) | (have H2_ := (Option.bind_some _ _).symm.trans H; with_reducible exact H2_) | with_reducible exact H | (rw [hy254]; exact H) | exact H
             have Ny254 := Aside0.mk hy254
             clear hy254
             obtain ⟨y257, hy257⟩ : ∃ y_ : List (S27), y_ = (([] : List (S27))) := ⟨_, rfl⟩
             replace H : (if y257.length + t217.length < 1466015503701 then ((some (y257 ++ t217 : List (S27))).bind fun y260 => (if (ji18) < (t217.length : Int) then ((some (([(⟨(rd_T27 t217 (ji18)).f0, (rd_T27 t217 (ji18)).f1, (rd_T27 t217 (ji18)).f2, (rd_T27 t217 (ji18)).f3, (rd_T27 t217 (ji18)).f4, (rd_T27 t217 (ji18)).f5, (rd_T27 t217 (ji18)).f6, (rd_T27 t217 (ji18)).f7⟩ : S27)] : List (S27)) : List (S27))).bind fun y264 => (if y260.length + y264.length < 1466015503701 then ((filter_May.f kj3 ((rd_T27 t217 (ji18)).f0) ((rd_T27 t217 (ji18)).f1) ((rd_T27 t217 (ji18)).f2) ((rd_T27 t217 (ji18)).f3) ((rd_T27 t217 (ji18)).f4) ((rd_T27 t217 (ji18)).f5) ((rd_T27 t217 (ji18)).f6) ((rd_T27 t217 (ji18)).f7)).bind fun t271 => (if t271 = true then (if (ji18) ≤ (ji28) then ((filter_All.f kj3 ((t217.take ((ji28) : Int).toNat).drop ((ji18) : Int).toNat)).bind fun t276 => (if t276 = true then ((filter_All.f kj3 y237).bind fun t277 => (if t277 = true then ((filter_All.f kj3 y254).bind fun t278 => (if t278 = true then ((filter_All.f kj3 (y260 ++ y264)).bind fun t279 => (if t279 = true then (none) else ((tolllaw07_awake.f kj3).bind fun t280 => (some t280)))) else (none))) else (none))) else (none))) else (none)) else (none))) else (none))) else (none))) else (none)) = some r := by first | (rw [hy257]; with_reducible exact H) | (have H2_ := (Option.bind_some _ _).symm.trans H; rw [hy257]; with_reducible exact H2_) | (have H2_ := (Option.bind_some _ _).symm.trans H; with_reducible exact H2_) | with_reducible exact H | (rw [hy257]; exact H) | exact H
             have Ny257 := Aside0.mk hy257
             clear hy257
             by_cases c32 : y257.length + t217.length < 1466015503701
             ·rw [if_pos c32] at H
              have LMc32 := Aside0.mk c32
              clear c32
              obtain ⟨y260, hy260⟩ : ∃ y_ : List (S27), y_ = (y257 ++ t217) := ⟨_, rfl⟩
              replace H : (if (ji18) < (t217.length : Int) then ((some (([(⟨(rd_T27 t217 (ji18)).f0, (rd_T27 t217 (ji18)).f1, (rd_T27 t217 (ji18)).f2, (rd_T27 t217 (ji18)).f3, (rd_T27 t217 (ji18)).f4, (rd_T27 t217 (ji18)).f5, (rd_T27 t217 (ji18)).f6, (rd_T27 t217 (ji18)).f7⟩ : S27)] : List (S27)) : List (S27))).bind fun y264 => (if y260.length + y264.length < 1466015503701 then ((filter_May.f kj3 ((rd_T27 t217 (ji18)).f0) ((rd_T27 t217 (ji18)).f1) ((rd_T27 t217 (ji18)).f2) ((rd_T27 t217 (ji18)).f3) ((rd_T27 t217 (ji18)).f4) ((rd_T27 t217 (ji18)).f5) ((rd_T27 t217 (ji18)).f6) ((rd_T27 t217 (ji18)).f7)).bind fun t271 => (if t271 = true then (if (ji18) ≤ (ji28) then ((filter_All.f kj3 ((t217.take ((ji28) : Int).toNat).drop ((ji18) : Int).toNat)).bind fun t276 => (if t276 = true then ((filter_All.f kj3 y237).bind fun t277 => (if t277 = true then ((filter_All.f kj3 y254).bind fun t278 => (if t278 = true then ((filter_All.f kj3 (y260 ++ y264)).bind fun t279 => (if t279 = true then (none) else ((tolllaw07_awake.f kj3).bind fun t280 => (some t280)))) else (none))) else (none))) else (none))) else (none)) else (none))) else (none))) else (none)) = some r := by first | (rw [hy260]; with_reducible exact H) | (have H2_ := (Option.bind_some _ _).symm.trans H; rw [hy260]; with_reducible exact H2_) | (have H2_ := (Option.bind_some _ _).symm.trans H; with_reducible exact H2_) | with_reducible exact H | (rw [hy260]; exact H) | exact H
              have Ny260 := Aside0.mk hy260
              clear hy260
              by_cases c33 : (ji18) < (t217.length : Int)
              ·rw [if_pos c33] at H
               have c33b0 : decide ((ji18) < (t217.length : Int)) = true := decide_eq_true c33
               clear c33
               obtain ⟨y264, hy264⟩ : ∃ y_ : List (S27), y_ = (([(⟨(rd_T27 t217 (ji18)).f0, (rd_T27 t217 (ji18)).f1, (rd_T27 t217 (ji18)).f2, (rd_T27 t217 (ji18)).f3, (rd_T27 t217 (ji18)).f4, (rd_T27 t217 (ji18)).f5, (rd_T27 t217 (ji18)).f6, (rd_T27 t217 (ji18)).f7⟩ : S27)] : List (S27))) := ⟨_, rfl⟩
               replace H : (if y260.length + y264.length < 1466015503701 then ((filter_May.f kj3 ((rd_T27 t217 (ji18)).f0) ((rd_T27 t217 (ji18)).f1) ((rd_T27 t217 (ji18)).f2) ((rd_T27 t217 (ji18)).f3) ((rd_T27 t217 (ji18)).f4) ((rd_T27 t217 (ji18)).f5) ((rd_T27 t217 (ji18)).f6) ((rd_T27 t217 (ji18)).f7)).bind fun t271 => (if t271 = true then (if (ji18) ≤ (ji28) then ((filter_All.f kj3 ((t217.take ((ji28) : Int).toNat).drop ((ji18) : Int).toNat)).bind fun t276 => (if t276 = true then ((filter_All.f kj3 y237).bind fun t277 => (if t277 = true then ((filter_All.f kj3 y254).bind fun t278 => (if t278 = true then ((filter_All.f kj3 (y260 ++ y264)).bind fun t279 => (if t279 = true then (none) else ((tolllaw07_awake.f kj3).bind fun t280 => (some t280)))) else (none))) else (none))) else (none))) else (none)) else (none))) else (none)) = some r := by first | (rw [hy264]; with_reducible exact H) | (have H2_ := (Option.bind_some _ _).symm.trans H; rw [hy264]; with_reducible exact H2_) | (have H2_ := (Option.bind_some _ _).symm.trans H; with_reducible exact H2_) | with_reducible exact H | (rw [hy264]; exact H) | exact H
               have Ny264 := Aside0.mk hy264
               clear hy264
               by_cases c34 : y260.length + y264.length < 1466015503701
               ·rw [if_pos c34] at H
                have LMc34 := Aside0.mk c34
                clear c34
                obtain ⟨y267, hy267⟩ : ∃ y_ : List (S27), y_ = (y260 ++ y264) := ⟨_, rfl⟩
                replace H : ((filter_May.f kj3 ((rd_T27 t217 (ji18)).f0) ((rd_T27 t217 (ji18)).f1) ((rd_T27 t217 (ji18)).f2) ((rd_T27 t217 (ji18)).f3) ((rd_T27 t217 (ji18)).f4) ((rd_T27 t217 (ji18)).f5) ((rd_T27 t217 (ji18)).f6) ((rd_T27 t217 (ji18)).f7)).bind fun t271 => (if t271 = true then (if (ji18) ≤ (ji28) then ((filter_All.f kj3 ((t217.take ((ji28) : Int).toNat).drop ((ji18) : Int).toNat)).bind fun t276 => (if t276 = true then ((filter_All.f kj3 y237).bind fun t277 => (if t277 = true then ((filter_All.f kj3 y254).bind fun t278 => (if t278 = true then ((filter_All.f kj3 y267).bind fun t279 => (if t279 = true then (none) else ((tolllaw07_awake.f kj3).bind fun t280 => (some t280)))) else (none))) else (none))) else (none))) else (none)) else (none))) = some r := by first | (rw [hy267]; with_reducible exact H) | (have H2_ := (Option.bind_some _ _).symm.trans H; rw [hy267]; with_reducible exact H2_) | (have H2_ := (Option.bind_some _ _).symm.trans H; with_reducible exact H2_) | with_reducible exact H | (rw [hy267]; exact H) | exact H
                have Ny267 := Aside0.mk hy267
                clear hy267
                replace H := Option.bind_eq_some_iff.mp H
                obtain ⟨t271, A350, H⟩ := H
                replace H : (if t271 = true then (if (ji18) ≤ (ji28) then ((filter_All.f kj3 ((t217.take ((ji28) : Int).toNat).drop ((ji18) : Int).toNat)).bind fun t276 => (if t276 = true then ((filter_All.f kj3 y237).bind fun t277 => (if t277 = true then ((filter_All.f kj3 y254).bind fun t278 => (if t278 = true then ((filter_All.f kj3 y267).bind fun t279 => (if t279 = true then (none) else ((tolllaw07_awake.f kj3).bind fun t280 => (some t280)))) else (none))) else (none))) else (none))) else (none)) else (none)) = some r := H
                have A35 := Aside0.mk A350
                clear A350
                by_cases c36 : t271 = true
                ·subst c36
                 have H1 : (if (ji18) ≤ (ji28) then ((filter_All.f kj3 ((t217.take ((ji28) : Int).toNat).drop ((ji18) : Int).toNat)).bind fun t276 => (if t276 = true then ((filter_All.f kj3 y237).bind fun t277 => (if t277 = true then ((filter_All.f kj3 y254).bind fun t278 => (if t278 = true then ((filter_All.f kj3 y267).bind fun t279 => (if t279 = true then (none) else ((tolllaw07_awake.f kj3).bind fun t280 => (some t280)))) else (none))) else (none))) else (none))) else (none)) = some r := by rw [if_pos rfl] at H; exact H
                 clear H
                 have H := H1
                 clear H1
                 have c37b0 := eq_true (of_decide_eq_true as_ : 0 ≤ (ji18))
                 by_cases c38 : (ji18) ≤ (ji28)
                 ·rw [if_pos c38] at H
                  have c38b0 := eq_true c38
                  have c38b1 : decide ((ji18) ≤ (ji28)) = true := decide_eq_true c38
                  clear c38
                  have c39b0 := eq_true (of_decide_eq_true as_ : (ji28) ≤ (t217.length : Int))
                  obtain ⟨y272, hy272⟩ : ∃ y_ : List (S27), y_ = ((t217.take ((ji28) : Int).toNat).drop ((ji18) : Int).toNat) := ⟨_, rfl⟩
                  replace H : ((filter_All.f kj3 y272).bind fun t276 => (if t276 = true then ((filter_All.f kj3 y237).bind fun t277 => (if t277 = true then ((filter_All.f kj3 y254).bind fun t278 => (if t278 = true then ((filter_All.f kj3 y267).bind fun t279 => (if t279 = true then (none) else ((tolllaw07_awake.f kj3).bind fun t280 => (some t280)))) else (none))) else (none))) else (none))) = some r := by first | (rw [hy272]; with_reducible exact H) | (have H2_ := (Option.bind_some _ _).symm.trans H; rw [hy272]; with_reducible exact H2_) | (have H2_ := (Option.bind_some _ _).symm.trans H; with_reducible exact H2_) | with_reducible exact H | (rw [hy272]; exact H) | exact H
                  have Ny272 := Aside0.mk hy272
                  clear hy272
                  replace H := Option.bind_eq_some_iff.mp H
                  obtain ⟨t276, A400, H⟩ := H
                  replace H : (if t276 = true then ((filter_All.f kj3 y237).bind fun t277 => (if t277 = true then ((filter_All.f kj3 y254).bind fun t278 => (if t278 = true then ((filter_All.f kj3 y267).bind fun t279 => (if t279 = true then (none) else ((tolllaw07_awake.f kj3).bind fun t280 => (some t280)))) else (none))) else (none))) else (none)) = some r := H
                  have A40 := Aside0.mk A400
                  clear A400
                  by_cases c41 : t276 = true
                  ·subst c41
                   have H1 : ((filter_All.f kj3 y237).bind fun t277 => (if t277 = true then ((filter_All.f kj3 y254).bind fun t278 => (if t278 = true then ((filter_All.f kj3 y267).bind fun t279 => (if t279 = true then (none) else ((tolllaw07_awake.f kj3).bind fun t280 => (some t280)))) else (none))) else (none))) = some r := by rw [if_pos rfl] at H; exact H
                   clear H
                   have H := H1
                   clear H1
                   replace H := Option.bind_eq_some_iff.mp H
                   obtain ⟨t277, A420, H⟩ := H
                   replace H : (if t277 = true then ((filter_All.f kj3 y254).bind fun t278 => (if t278 = true then ((filter_All.f kj3 y267).bind fun t279 => (if t279 = true then (none) else ((tolllaw07_awake.f kj3).bind fun t280 => (some t280)))) else (none))) else (none)) = some r := H
                   have A42 := Aside0.mk A420
                   clear A420
                   by_cases c43 : t277 = true
                   ·subst c43
                    have H1 : ((filter_All.f kj3 y254).bind fun t278 => (if t278 = true then ((filter_All.f kj3 y267).bind fun t279 => (if t279 = true then (none) else ((tolllaw07_awake.f kj3).bind fun t280 => (some t280)))) else (none))) = some r := by rw [if_pos rfl] at H; exact H
                    clear H
                    have H := H1
                    clear H1
                    replace H := Option.bind_eq_some_iff.mp H
                    obtain ⟨t278, A440, H⟩ := H
                    replace H : (if t278 = true then ((filter_All.f kj3 y267).bind fun t279 => (if t279 = true then (none) else ((tolllaw07_awake.f kj3).bind fun t280 => (some t280)))) else (none)) = some r := H
                    have A44 := Aside0.mk A440
                    clear A440
                    by_cases c45 : t278 = true
                    ·subst c45
                     have H1 : ((filter_All.f kj3 y267).bind fun t279 => (if t279 = true then (none) else ((tolllaw07_awake.f kj3).bind fun t280 => (some t280)))) = some r := by rw [if_pos rfl] at H; exact H
                     clear H
                     have H := H1
                     clear H1
                     replace H := Option.bind_eq_some_iff.mp H
                     obtain ⟨t279, A460, H⟩ := H
                     replace H : (if t279 = true then (none) else ((tolllaw07_awake.f kj3).bind fun t280 => (some t280))) = some r := H
                     have A46 := Aside0.mk A460
                     clear A460
                     by_cases c47 : t279 = true
                     ·subst c47
                      have H1 : (none) = some r := by rw [if_pos rfl] at H; exact H
                      clear H
                      have H := H1
                      clear H1
                      exact absurd H (by simp)
                     ·replace c47 := Bool.eq_false_iff.mpr c47
                      subst c47
                      have H1 : ((tolllaw07_awake.f kj3).bind fun t280 => (some t280)) = some r := by rw [if_neg (show ¬ (false = true) by decide)] at H; exact H
                      clear H
                      have H := H1
                      clear H1
                      replace H := Option.bind_eq_some_iff.mp H
                      obtain ⟨t280, A480, H⟩ := H
                      replace H : (some t280) = some r := H
                      have A48 := Aside0.mk A480
                      clear A480
                      obtain rfl := Option.some.inj H
                      obtain ⟨Ao49, co49, eo49⟩ := Kd.R_slice HO_0.out
                      subst eo49
                      try go_wp2
                      have n0_ := am_ (Kd.R_drew HO_0.out)
                      have n1_ := am_ (below_drew1 HB.out)
                      clear HO_0 HB
                      have HO_0 := n0_
                      have HB := n1_
                      clear n0_ n1_
                      have q51 : ((ji18) : Int) ≤ ((t217.length : Int) : Int) := of_decide_eq_true as_
                      obtain ⟨i051, hi051, _, hsz51, _⟩ := info_parts info27
                      have hroom51 : t217.length ≤ co49 := (Kd.R_reads' HO_0.out).2.1
                      have hC51 : Kd.C k27 _ Ao49 t217.length t217 := (Kd.R_reads' HO_0.out).2.2
                      have q051 : (0 : Int) ≤ ((ji18) : Int) := of_decide_eq_true as_
                      have hcut51 := cut_from (P := Tryd.prog) 22 27 .i64 Tryd.underlying22 hi051 8 hsz51 Ao49 t217.length co49 (ji18) q051 q51
                      have hr51 := Kd.C_drop (m := ((ji18) : Int).toNat) (c := co49) hC51 (by omega) hroom51
                      obtain ⟨A51, hA51⟩ : ∃ A1, A1 = (if co49 = ((ji18) : Int).toNat then Ao49 else (Ao49 : Option Addr).map (·.add (((ji18) : Int).toNat * 8))) := ⟨_, rfl⟩
                      obtain ⟨c51, hc51⟩ : ∃ c1, c1 = co49 - ((ji18) : Int).toNat := ⟨_, rfl⟩
                      have hy51 : y226.length = t217.length - ((ji18) : Int).toNat := (by rw [Ny226.out, List.length_drop] <;> omega)
                      rw [show (t217).drop ((ji18) : Int).toNat = y226 from Ny226.out.symm] at hr51
                      replace hr51 : Kd.C k27 _ A51 y226.length y226 := (by rw [hA51]; exact hr51)
                      rw [← hy51, ← hA51, ← hc51] at hcut51
                      have HR229 := Aside0.mk hr51
                      have HC229 := am_ (show y226.length ≤ c51 from by rw [hy51, hc51]; exact Nat.sub_le_sub_right hroom51 _)
                      clear hr51 hC51 hroom51 hi051 hsz51 hc51
                      have KY51 := Aside0.mk hy51
                      have KA51 := Aside0.mk hA51
                      clear hy51 hA51
                      have KL51 := am_ (show ((ji18) : Int).toNat ≤ t217.length from by omega)
                      replace q51 := eq_true q51
                      have q52 : ((ji18) : Int) ≤ ((t217.length : Int) : Int) := of_decide_eq_true as_
                      obtain ⟨i052, hi052, _, hsz52, _⟩ := info_parts info27
                      have hroom52 : t217.length ≤ co49 := (Kd.R_reads' HO_0.out).2.1
                      have hC52 : Kd.C k27 _ Ao49 t217.length t217 := (Kd.R_reads' HO_0.out).2.2
                      have hcut52 := cut_to (P := Tryd.prog) 22 27 .i64 Tryd.underlying22 hi052 Ao49 t217.length co49 (ji18) (of_decide_eq_true as_) q52 hroom52
                      have hr52 := Kd.C_take (m := ((ji18) : Int).toNat) hC52 (by omega)
                      have hy52 : y233.length = ((ji18) : Int).toNat := (by rw [Ny233.out, List.length_take]; omega)
                      rw [← Ny233.out] at hr52
                      rw [← hy52] at hcut52
                      have HR236 := Aside0.mk hr52
                      have HC236 := am_ (show y233.length ≤ co49 from by omega)
                      clear hr52 hC52 hroom52 hi052 hsz52
                      have KY52 := Aside0.mk hy52
                      clear hy52
                      have KL52 := am_ (show ((ji18) : Int).toNat ≤ t217.length from by omega)
                      replace q52 := eq_true q52
                      refine start_ (n := 10) (S := fun w' => True) (ds := []) #[false, false, false, false, false, false, false, false, false, false] kr_ rfl rfl trivial (fun hHeld => ?_); refine with_tabW tolllaw07_FilterOnce.tab5 tolllaw07_FilterOnce.bits5 (fun HT_ HW_ => ?_)
                      generalize wc.drew = w50 at HO_0 HB HR229 HR236 hHeld ⊢
                      refine pure_ (i := 1) (N := some 29) (v := ?_) (a' := ?_) #[false, true, false, false, false, false, false, false, false, false] rfl rfl (any_of HT_.out kr_) (fun _ _ _ h => h) (Or.inl ⟨by rfl, ?_⟩) ?_ ?_
                      rotate_left
                      ·intro w'
                       go_simp
                       with_reducible rfl
                      rotate_left
                      ·simp only [Act.put, sx_, s0_, s1_, i64_w, i32_w]
                       rfl
                      refine pure_ (i := 2) (N := some 30) (v := ?_) (a' := ?_) #[false, true, true, false, false, false, false, false, false, false] rfl rfl (any_of HT_.out kr_) (fun _ _ _ h => h) (Or.inl ⟨by rfl, ?_⟩) ?_ ?_
                      rotate_left
                      ·intro w'
                       go_simp
                       with_reducible rfl
                      rotate_left
                      ·simp only [Act.put, sx_, s0_, s1_, i64_w, i32_w]
                       rfl
                      refine pure_ (i := 3) (N := some 31) (v := ?_) (a' := ?_) #[false, true, true, true, false, false, false, false, false, false] rfl rfl (any_of HT_.out kr_) (fun _ _ _ h => h) (Or.inl ⟨by rfl, ?_⟩) ?_ ?_
                      rotate_left
                      ·intro w'
                       go_simp
                       with_reducible rfl
                      rotate_left
                      ·simp only [Act.put, sx_, s0_, s1_, i64_w, i32_w]
                       rfl
                      refine pure_ (i := 5) (N := some 33) (v := ?_) (a' := ?_) #[false, true, true, true, false, true, false, false, false, false] rfl rfl (any_of HT_.out kr_) (fun _ _ _ h => h) (Or.inl ⟨by rfl, ?_⟩) ?_ ?_
                      rotate_left
                      ·intro w'
                       go_simp
                       with_reducible rfl
                      rotate_left
                      ·simp only [Act.put, sx_, s0_, s1_, i64_w, i32_w]
                       rfl
                      refine pure_ (i := 6) (N := some 34) (v := ?_) (a' := ?_) #[false, true, true, true, false, true, true, false, false, false] rfl rfl (any_of HT_.out kr_) (fun _ _ _ h => h) (Or.inl ⟨by rfl, ?_⟩) ?_ ?_
                      rotate_left
                      ·intro w'
                       go_simp
                       with_reducible rfl
                      rotate_left
                      ·simp only [Act.put, sx_, s0_, s1_, i64_w, i32_w]
                       rfl
                      refine pure_ (i := 7) (N := some 35) (v := ?_) (a' := ?_) #[false, true, true, true, false, true, true, true, false, false] rfl rfl (any_of HT_.out kr_) (fun _ _ _ h => h) (Or.inl ⟨by rfl, ?_⟩) ?_ ?_
                      rotate_left
                      ·intro w'
                       go_simp
                       with_reducible rfl
                      rotate_left
                      ·simp only [Act.put, sx_, s0_, s1_, i64_w, i32_w]
                       rfl
                      refine one_ (i := 0) (N := some 28) #[true, true, true, true, false, true, true, true, false, false] rfl rfl (one_of HT_.out kr_) (by decide) (fun K hK => ?_)
                      refine Kd.R_lit_step k27 _ 27 ?hg (N := 28) ?hd (xs := ([] : List (S27))) (inner := []) (ok := fun _ => True) (okp := fun _ => True) ?hr ?hp (fun _ hk => hk) trivial (Below.refl _ _) (Nat.le_refl _) (by simp) ?_; (case hd => rfl); (case hg => rfl); (case hr => first | (go_simp; done) | (go_simp; rfl)); (case hp => exact (Reps.none _ _))
                      intro v224 w53 ho54 hb hg_ hnew_
                      clear hg_ hnew_
                      (first | rw [← Ny223.out] at ho54 | (simp only [Int.reduceToNat] at ho54; rw [← Ny223.out] at ho54))
                      have n0_ := am_ (Kd.R_elder' (R_ HO_0.out) (Kd.R_base ho54) hb)
                      have n1_ := am_ (Kd.R_lower (Kd.R_new' ho54 (Kd.R_lt (R_ HO_0.out))) (below_size (bel_ HB.out)))
                      have n2_ := am_ (Kd.C_below (by repeat (first | (with_reducible exact HR229.out) | (with_reducible refine Kd.C_alloc ?_ _) | (with_reducible refine Kd.C_drewN ?_ _) | (with_reducible refine Kd.C_drew ?_) | exact HR229.out)) hb)
                      have n3_ := am_ (Kd.C_below (by repeat (first | (with_reducible exact HR236.out) | (with_reducible refine Kd.C_alloc ?_ _) | (with_reducible refine Kd.C_drewN ?_ _) | (with_reducible refine Kd.C_drew ?_) | exact HR236.out)) hb)
                      have n4_ := am_ (below_step (bel_ HB.out) hb)
                      clear HO_0 HR229 HR236 HB
                      have HO_0 := n0_
                      have HO225 := n1_
                      have HR229 := n2_
                      have HR236 := n3_
                      have HB := n4_
                      clear n0_ n1_ n2_ n3_ n4_ hb ho54
                      refine hK.out _ _ trivial (fun hHeld => ?_)
                      clear hK K
                      refine norm_ (a' := ?_) ?_ ?_
                      rotate_left
                      ·show Act.put _ (some 28) _ = _
                       simp only [Act.put, sx_, s0_, s1_, i64_w, i32_w]
                       rfl
                      refine one_ (i := 4) (N := some 32) #[true, true, true, true, true, true, true, true, false, false] rfl rfl (one_of HT_.out kr_) (by decide) (fun K hK => ?_)
                      refine Kd.R_append_rows_step k27 (w0 := w) w.heap.size (by rfl) (.tmp 28) (.tmp 31) 22 27 (.agg #[(.int .i64 0), (.string ⟨#[]⟩), (.string ⟨#[]⟩), (.string ⟨#[]⟩), (.int .i64 0), (.string ⟨#[]⟩), (.bool false), (.int .i64 0)]) 96 rfl Tryd.underlying22 info27 rfl (by decide) (by omega) v224 y223 y226 _ _ _ (fun k_ => some k_ ≠ (.slice Ao49 t217.length co49 : Value).ownBlock) (fun _ => False) rfl rfl ?aO ?aR (fun _ _ h => h) (fun _ h => h.elim) ?aF ?aB ?aS ?aL ?_
                      (case aR => repeat (first | exact (by repeat (first | (with_reducible exact HR229.out) | (with_reducible refine Kd.C_alloc ?_ _) | (with_reducible refine Kd.C_drewN ?_ _) | (with_reducible refine Kd.C_drew ?_) | exact HR229.out)) | (with_reducible refine Kd.C_alloc ?_ _) | (with_reducible refine Kd.C_drewN ?_ _) | (with_reducible refine Kd.C_drew ?_)))
                      (case aB => exact (bel_ HB.out))
                      (case aF => exact (fun k_ hk => Kd.fresh' (Kd.R_lt (R_ HO_0.out)) k_ hk))
                      (case aO => exact (by (with_reducible repeat (first | apply Kd.R_alloc | apply Kd.R_drewN | apply Kd.R_drew)); exact Kd.R_mono HO225.out (fun _ hk => hk.2)))
                      (case aS => exact (below_size (bel_ HB.out)))
                      (case aL => have := LMc21.out; omega)
                      intro v231 w55 ho hb hg hat
                      rw [← Ny230.out] at ho
                      have n0_ := am_ (Kd.R_after (ok := (fun _ => True)) (R_ HO_0.out) hg hat)
                      have n1_ := am_ (hb)
                      have n2_ := am_ ((show Kd.C k27 w55 A51 y226.length y226 from by rw [Ny226.out, KA51.out]; exact Kd.C_drop (m := ((ji18) : Int).toNat) (c := co49) ((Kd.R_reads' (Kd.R_after (ok := (fun _ => True)) (R_ HO_0.out) hg hat)).2.2) KL51.out ((Kd.R_reads' (Kd.R_after (ok := (fun _ => True)) (R_ HO_0.out) hg hat)).2.1)))
                      have n3_ := am_ ((show Kd.C k27 w55 Ao49 y233.length y233 from by rw [Ny233.out]; exact Kd.C_take (m := ((ji18) : Int).toNat) ((Kd.R_reads' (Kd.R_after (ok := (fun _ => True)) (R_ HO_0.out) hg hat)).2.2) KL52.out))
                      have n4_ := am_ (ho)
                      clear HO_0 HB HR229 HR236 HO225
                      have HO_0 := n0_
                      have HB := n1_
                      have HR229 := n2_
                      have HR236 := n3_
                      have HO232 := n4_
                      clear n0_ n1_ n2_ n3_ n4_ ho hb hg hat
                      refine hK.out _ _ trivial (fun hHeld => ?_)
                      clear hK K
                      refine norm_ (a' := ?_) ?_ ?_
                      rotate_left
                      ·show Act.put _ (some 32) _ = _
                       simp only [Act.put, sx_, s0_, s1_, i64_w, i32_w]
                       rfl
                      refine one_ (i := 8) (N := some 36) #[true, true, true, true, true, true, true, true, true, false] rfl rfl (one_of HT_.out kr_) (by decide) (fun K hK => ?_)
                      refine Kd.R_append_rows_step k27 (w0 := w) w.heap.size (by rfl) (.tmp 32) (.tmp 35) 22 27 (.agg #[(.int .i64 0), (.string ⟨#[]⟩), (.string ⟨#[]⟩), (.string ⟨#[]⟩), (.int .i64 0), (.string ⟨#[]⟩), (.bool false), (.int .i64 0)]) 96 rfl Tryd.underlying22 info27 rfl (by decide) (by omega) v231 y230 y233 _ _ _ (fun k_ => some k_ ≠ (.slice Ao49 t217.length co49 : Value).ownBlock) (fun _ => False) rfl rfl ?aO ?aR (fun _ _ h => h) (fun _ h => h.elim) ?aF ?aB ?aS ?aL ?_
                      (case aR => repeat (first | exact (by repeat (first | (with_reducible exact HR236.out) | (with_reducible refine Kd.C_alloc ?_ _) | (with_reducible refine Kd.C_drewN ?_ _) | (with_reducible refine Kd.C_drew ?_) | exact HR236.out)) | (with_reducible refine Kd.C_alloc ?_ _) | (with_reducible refine Kd.C_drewN ?_ _) | (with_reducible refine Kd.C_drew ?_)))
                      (case aB => exact (bel_ HB.out))
                      (case aF => exact (fun k_ hk => Kd.fresh' (Kd.R_lt (R_ HO_0.out)) k_ hk))
                      (case aO => exact (R_ HO232.out))
                      (case aS => exact (below_size (bel_ HB.out)))
                      (case aL => have := LMc24.out; omega)
                      intro v238 w56 ho hb hg hat
                      rw [← Ny237.out] at ho
                      have n0_ := am_ (Kd.R_after (ok := (fun _ => True)) (R_ HO_0.out) hg hat)
                      have n1_ := am_ (hb)
                      have n2_ := am_ ((show Kd.C k27 w56 A51 y226.length y226 from by rw [Ny226.out, KA51.out]; exact Kd.C_drop (m := ((ji18) : Int).toNat) (c := co49) ((Kd.R_reads' (Kd.R_after (ok := (fun _ => True)) (R_ HO_0.out) hg hat)).2.2) KL51.out ((Kd.R_reads' (Kd.R_after (ok := (fun _ => True)) (R_ HO_0.out) hg hat)).2.1)))
                      have n3_ := am_ ((show Kd.C k27 w56 Ao49 y233.length y233 from by rw [Ny233.out]; exact Kd.C_take (m := ((ji18) : Int).toNat) ((Kd.R_reads' (Kd.R_after (ok := (fun _ => True)) (R_ HO_0.out) hg hat)).2.2) KL52.out))
                      have n4_ := am_ (ho)
                      clear HO_0 HB HR229 HR236 HO232
                      have HO_0 := n0_
                      have HB := n1_
                      have HR229 := n2_
                      have HR236 := n3_
                      have HO239 := n4_
                      clear n0_ n1_ n2_ n3_ n4_ ho hb hg hat
                      refine hK.out _ _ trivial (fun hHeld => ?_)
                      clear hK K
                      refine norm_ (a' := ?_) ?_ ?_
                      rotate_left
                      ·show Act.put _ (some 36) _ = _
                       simp only [Act.put, sx_, s0_, s1_, i64_w, i32_w]
                       rfl
                      refine pure_ (i := 9) (N := some 6) (v := ?_) (a' := ?_) #[true, true, true, true, true, true, true, true, true, true] rfl rfl (any_of HT_.out kr_) (fun _ _ _ h => h) (Or.inl ⟨by rfl, ?_⟩) ?_ ?_
                      rotate_left
                      ·intro w'
                       go_simp
                       with_reducible rfl
                      rotate_left
                      ·simp only [Act.put, sx_, s0_, s1_, i64_w, i32_w]
                       rfl
                      refine done_ (done_of HT_.out kr_) ?_
                      try go_wp2
                      have n0_ := am_ (Kd.R_drew HO_0.out)
                      have n1_ := am_ (Kd.R_drew HO239.out)
                      have n2_ := am_ (Kd.C_drew HR229.out)
                      have n3_ := am_ (Kd.C_drew HR236.out)
                      have n4_ := am_ (below_drew1 HB.out)
                      clear HO_0 HO239 HR229 HR236 HB
                      have HO_0 := n0_
                      have HO239 := n1_
                      have HR229 := n2_
                      have HR236 := n3_
                      have HB := n4_
                      clear n0_ n1_ n2_ n3_ n4_
                      have q58 : ((ji18) : Int) ≤ ((t217.length : Int) : Int) := of_decide_eq_true as_
                      obtain ⟨i058, hi058, _, hsz58, _⟩ := info_parts info27
                      have hroom58 : t217.length ≤ co49 := (Kd.R_reads' HO_0.out).2.1
                      have hC58 : Kd.C k27 _ Ao49 t217.length t217 := (Kd.R_reads' HO_0.out).2.2
                      have hcut58 := cut_to (P := Tryd.prog) 22 27 .i64 Tryd.underlying22 hi058 Ao49 t217.length co49 (ji18) (of_decide_eq_true as_) q58 hroom58
                      have hr58 := Kd.C_take (m := ((ji18) : Int).toNat) hC58 (by omega)
                      have hy58 : y243.length = ((ji18) : Int).toNat := (by rw [Ny243.out, List.length_take]; omega)
                      rw [← Ny243.out] at hr58
                      rw [← hy58] at hcut58
                      have HR246 := Aside0.mk hr58
                      have HC246 := am_ (show y243.length ≤ co49 from by omega)
                      clear hr58 hC58 hroom58 hi058 hsz58
                      have KY58 := Aside0.mk hy58
                      clear hy58
                      have KL58 := am_ (show ((ji18) : Int).toNat ≤ t217.length from by omega)
                      replace q58 := eq_true q58
                      have q59 : ((ji28) : Int) ≤ ((t217.length : Int) : Int) := of_decide_eq_true as_
                      obtain ⟨i059, hi059, _, hsz59, _⟩ := info_parts info27
                      have hroom59 : t217.length ≤ co49 := (Kd.R_reads' HO_0.out).2.1
                      have hC59 : Kd.C k27 _ Ao49 t217.length t217 := (Kd.R_reads' HO_0.out).2.2
                      have q059 : (0 : Int) ≤ ((ji28) : Int) := of_decide_eq_true as_
                      have hcut59 := cut_from (P := Tryd.prog) 22 27 .i64 Tryd.underlying22 hi059 8 hsz59 Ao49 t217.length co49 (ji28) q059 q59
                      have hr59 := Kd.C_drop (m := ((ji28) : Int).toNat) (c := co49) hC59 (by omega) hroom59
                      obtain ⟨A59, hA59⟩ : ∃ A1, A1 = (if co49 = ((ji28) : Int).toNat then Ao49 else (Ao49 : Option Addr).map (·.add (((ji28) : Int).toNat * 8))) := ⟨_, rfl⟩
                      obtain ⟨c59, hc59⟩ : ∃ c1, c1 = co49 - ((ji28) : Int).toNat := ⟨_, rfl⟩
                      have hy59 : y250.length = t217.length - ((ji28) : Int).toNat := (by rw [Ny250.out, List.length_drop] <;> omega)
                      rw [show (t217).drop ((ji28) : Int).toNat = y250 from Ny250.out.symm] at hr59
                      replace hr59 : Kd.C k27 _ A59 y250.length y250 := (by rw [hA59]; exact hr59)
                      rw [← hy59, ← hA59, ← hc59] at hcut59
                      have HR253 := Aside0.mk hr59
                      have HC253 := am_ (show y250.length ≤ c59 from by rw [hy59, hc59]; exact Nat.sub_le_sub_right hroom59 _)
                      clear hr59 hC59 hroom59 hi059 hsz59 hc59
                      have KY59 := Aside0.mk hy59
                      have KA59 := Aside0.mk hA59
                      clear hy59 hA59
                      have KL59 := am_ (show ((ji28) : Int).toNat ≤ t217.length from by omega)
                      replace q59 := eq_true q59
                      refine start_ (n := 11) (S := fun w' => True) (ds := []) #[false, false, false, false, false, false, false, false, false, false, false] kr_ rfl rfl trivial (fun hHeld => ?_); refine with_tabW tolllaw07_FilterOnce.tab6 tolllaw07_FilterOnce.bits6 (fun HT_ HW_ => ?_)
                      generalize w56.drew = w57 at HO_0 HO239 HR229 HR236 HB HR246 HR253 hHeld ⊢
                      refine pure_ (i := 1) (N := some 38) (v := ?_) (a' := ?_) #[false, true, false, false, false, false, false, false, false, false, false] rfl rfl (any_of HT_.out kr_) (fun _ _ _ h => h) (Or.inl ⟨by rfl, ?_⟩) ?_ ?_
                      rotate_left
                      ·intro w'
                       go_simp
                       with_reducible rfl
                      rotate_left
                      ·simp only [Act.put, sx_, s0_, s1_, i64_w, i32_w]
                       rfl
                      refine pure_ (i := 2) (N := some 39) (v := ?_) (a' := ?_) #[false, true, true, false, false, false, false, false, false, false, false] rfl rfl (any_of HT_.out kr_) (fun _ _ _ h => h) (Or.inl ⟨by rfl, ?_⟩) ?_ ?_
                      rotate_left
                      ·intro w'
                       go_simp
                       with_reducible rfl
                      rotate_left
                      ·simp only [Act.put, sx_, s0_, s1_, i64_w, i32_w]
                       rfl
                      refine pure_ (i := 3) (N := some 40) (v := ?_) (a' := ?_) #[false, true, true, true, false, false, false, false, false, false, false] rfl rfl (any_of HT_.out kr_) (fun _ _ _ h => h) (Or.inl ⟨by rfl, ?_⟩) ?_ ?_
                      rotate_left
                      ·intro w'
                       go_simp
                       with_reducible rfl
                      rotate_left
                      ·simp only [Act.put, sx_, s0_, s1_, i64_w, i32_w]
                       rfl
                      refine pure_ (i := 5) (N := some 42) (v := ?_) (a' := ?_) #[false, true, true, true, false, true, false, false, false, false, false] rfl rfl (any_of HT_.out kr_) (fun _ _ _ h => h) (Or.inl ⟨by rfl, ?_⟩) ?_ ?_
                      rotate_left
                      ·intro w'
                       go_simp
                       with_reducible rfl
                      rotate_left
                      ·simp only [Act.put, sx_, s0_, s1_, i64_w, i32_w]
                       rfl
                      refine pure_ (i := 6) (N := some 43) (v := ?_) (a' := ?_) #[false, true, true, true, false, true, true, false, false, false, false] rfl rfl (any_of HT_.out kr_) (fun _ _ _ h => h) (Or.inl ⟨by rfl, ?_⟩) ?_ ?_
                      rotate_left
                      ·intro w'
                       go_simp
                       with_reducible rfl
                      rotate_left
                      ·simp only [Act.put, sx_, s0_, s1_, i64_w, i32_w]
                       rfl
                      refine pure_ (i := 7) (N := some 44) (v := ?_) (a' := ?_) #[false, true, true, true, false, true, true, true, false, false, false] rfl rfl (any_of HT_.out kr_) (fun _ _ _ h => h) (Or.inl ⟨by rfl, ?_⟩) ?_ ?_
                      rotate_left
                      ·intro w'
                       go_simp
                       with_reducible rfl
                      rotate_left
                      ·simp only [Act.put, sx_, s0_, s1_, i64_w, i32_w]
                       rfl
                      refine pure_ (i := 8) (N := some 45) (v := ?_) (a' := ?_) #[false, true, true, true, false, true, true, true, true, false, false] rfl rfl (any_of HT_.out kr_) (fun _ _ _ h => h) (Or.inl ⟨by rfl, ?_⟩) ?_ ?_
                      rotate_left
                      ·intro w'
                       go_simp
                       with_reducible rfl
                      rotate_left
                      ·simp only [Act.put, sx_, s0_, s1_, i64_w, i32_w]
                       rfl
                      refine one_ (i := 0) (N := some 37) #[true, true, true, true, false, true, true, true, true, false, false] rfl rfl (one_of HT_.out kr_) (by decide) (fun K hK => ?_)
                      refine Kd.R_lit_step k27 _ 27 ?hg (N := 37) ?hd (xs := ([] : List (S27))) (inner := []) (ok := fun _ => True) (okp := fun _ => True) ?hr ?hp (fun _ hk => hk) trivial (Below.refl _ _) (Nat.le_refl _) (by simp) ?_; (case hd => rfl); (case hg => rfl); (case hr => first | (go_simp; done) | (go_simp; rfl)); (case hp => exact (Reps.none _ _))
                      intro v241 w60 ho61 hb hg_ hnew_
                      clear hg_ hnew_
                      (first | rw [← Ny240.out] at ho61 | (simp only [Int.reduceToNat] at ho61; rw [← Ny240.out] at ho61))
                      have n0_ := am_ (Kd.R_elder' (R_ HO_0.out) (Kd.R_base ho61) hb)
                      have n1_ := am_ (Kd.R_elder' (R_ HO239.out) (Kd.R_base ho61) hb)
                      have n2_ := am_ (Kd.R_lower (Kd.R_new' (Kd.R_new' ho61 (Kd.R_lt (R_ HO_0.out))) (Kd.R_lt (R_ HO239.out))) (below_size (bel_ HB.out)))
                      have n3_ := am_ (Kd.C_below (by repeat (first | (with_reducible exact HR229.out) | (with_reducible refine Kd.C_alloc ?_ _) | (with_reducible refine Kd.C_drewN ?_ _) | (with_reducible refine Kd.C_drew ?_) | exact HR229.out)) hb)
                      have n4_ := am_ (Kd.C_below (by repeat (first | (with_reducible exact HR236.out) | (with_reducible refine Kd.C_alloc ?_ _) | (with_reducible refine Kd.C_drewN ?_ _) | (with_reducible refine Kd.C_drew ?_) | exact HR236.out)) hb)
                      have n5_ := am_ (Kd.C_below (by repeat (first | (with_reducible exact HR246.out) | (with_reducible refine Kd.C_alloc ?_ _) | (with_reducible refine Kd.C_drewN ?_ _) | (with_reducible refine Kd.C_drew ?_) | exact HR246.out)) hb)
                      have n6_ := am_ (Kd.C_below (by repeat (first | (with_reducible exact HR253.out) | (with_reducible refine Kd.C_alloc ?_ _) | (with_reducible refine Kd.C_drewN ?_ _) | (with_reducible refine Kd.C_drew ?_) | exact HR253.out)) hb)
                      have n7_ := am_ (below_step (bel_ HB.out) hb)
                      clear HO_0 HO239 HR229 HR236 HR246 HR253 HB
                      have HO_0 := n0_
                      have HO239 := n1_
                      have HO242 := n2_
                      have HR229 := n3_
                      have HR236 := n4_
                      have HR246 := n5_
                      have HR253 := n6_
                      have HB := n7_
                      clear n0_ n1_ n2_ n3_ n4_ n5_ n6_ n7_ hb ho61
                      refine hK.out _ _ trivial (fun hHeld => ?_)
                      clear hK K
                      refine norm_ (a' := ?_) ?_ ?_
                      rotate_left
                      ·show Act.put _ (some 37) _ = _
                       simp only [Act.put, sx_, s0_, s1_, i64_w, i32_w]
                       rfl
                      refine one_ (i := 4) (N := some 41) #[true, true, true, true, true, true, true, true, true, false, false] rfl rfl (one_of HT_.out kr_) (by decide) (fun K hK => ?_)
                      refine Kd.R_append_rows_step k27 (w0 := w) w.heap.size (by rfl) (.tmp 37) (.tmp 40) 22 27 (.agg #[(.int .i64 0), (.string ⟨#[]⟩), (.string ⟨#[]⟩), (.string ⟨#[]⟩), (.int .i64 0), (.string ⟨#[]⟩), (.bool false), (.int .i64 0)]) 96 rfl Tryd.underlying22 info27 rfl (by decide) (by omega) v241 y240 y243 _ _ _ (fun k_ => some k_ ≠ (.slice Ao49 t217.length co49 : Value).ownBlock ∧ some k_ ≠ (v238 : Value).ownBlock) (fun _ => False) rfl rfl ?aO ?aR (fun _ _ h => h) (fun _ h => h.elim) ?aF ?aB ?aS ?aL ?_
                      (case aR => (try rw [show y233.length = y243.length from by rw [Ny233.out, Ny243.out]]); repeat (first | exact (by repeat (first | (with_reducible exact HR246.out) | (with_reducible refine Kd.C_alloc ?_ _) | (with_reducible refine Kd.C_drewN ?_ _) | (with_reducible refine Kd.C_drew ?_) | exact HR246.out)) | (with_reducible refine Kd.C_alloc ?_ _) | (with_reducible refine Kd.C_drewN ?_ _) | (with_reducible refine Kd.C_drew ?_)))
                      (case aB => exact (bel_ HB.out))
                      (case aF => exact (fun k_ hk => ⟨Kd.fresh' (Kd.R_lt (R_ HO_0.out)) k_ hk, Kd.fresh' (Kd.R_lt (R_ HO239.out)) k_ hk⟩))
                      (case aO => exact (by (with_reducible repeat (first | apply Kd.R_alloc | apply Kd.R_drewN | apply Kd.R_drew)); exact Kd.R_mono HO242.out (fun _ hk => ⟨hk.1.2, hk.2⟩)))
                      (case aS => exact (below_size (bel_ HB.out)))
                      (case aL => have hyy_ : y243.length = y233.length := (by rw [Ny243.out, Ny233.out]); have := LMc27.out; omega)
                      intro v248 w62 ho hb hg hat
                      rw [← Ny247.out] at ho
                      have n0_ := am_ (Kd.R_after (ok := (fun k_ => some k_ ≠ (v238 : Value).ownBlock)) (by (with_reducible repeat (first | apply Kd.R_alloc | apply Kd.R_drewN | apply Kd.R_drew)); exact Kd.R_mono HO_0.out (fun _ hk => ⟨hk.1.2, hk.2⟩)) hg hat)
                      have n1_ := am_ (Kd.R_after (ok := (fun k_ => some k_ ≠ (.slice Ao49 t217.length co49 : Value).ownBlock)) (R_ HO239.out) hg hat)
                      have n2_ := am_ (hb)
                      have n3_ := am_ ((show Kd.C k27 w62 A51 y226.length y226 from by rw [Ny226.out, KA51.out]; exact Kd.C_drop (m := ((ji18) : Int).toNat) (c := co49) ((Kd.R_reads' (Kd.R_after (ok := (fun k_ => some k_ ≠ (v238 : Value).ownBlock)) (by (with_reducible repeat (first | apply Kd.R_alloc | apply Kd.R_drewN | apply Kd.R_drew)); exact Kd.R_mono HO_0.out (fun _ hk => ⟨hk.1.2, hk.2⟩)) hg hat)).2.2) KL51.out ((Kd.R_reads' (Kd.R_after (ok := (fun k_ => some k_ ≠ (v238 : Value).ownBlock)) (by (with_reducible repeat (first | apply Kd.R_alloc | apply Kd.R_drewN | apply Kd.R_drew)); exact Kd.R_mono HO_0.out (fun _ hk => ⟨hk.1.2, hk.2⟩)) hg hat)).2.1)))
                      have n4_ := am_ ((show Kd.C k27 w62 Ao49 y233.length y233 from by rw [Ny233.out]; exact Kd.C_take (m := ((ji18) : Int).toNat) ((Kd.R_reads' (Kd.R_after (ok := (fun k_ => some k_ ≠ (v238 : Value).ownBlock)) (by (with_reducible repeat (first | apply Kd.R_alloc | apply Kd.R_drewN | apply Kd.R_drew)); exact Kd.R_mono HO_0.out (fun _ hk => ⟨hk.1.2, hk.2⟩)) hg hat)).2.2) KL52.out))
                      have n5_ := am_ ((show Kd.C k27 w62 Ao49 y243.length y243 from by rw [Ny243.out]; exact Kd.C_take (m := ((ji18) : Int).toNat) ((Kd.R_reads' (Kd.R_after (ok := (fun k_ => some k_ ≠ (v238 : Value).ownBlock)) (by (with_reducible repeat (first | apply Kd.R_alloc | apply Kd.R_drewN | apply Kd.R_drew)); exact Kd.R_mono HO_0.out (fun _ hk => ⟨hk.1.2, hk.2⟩)) hg hat)).2.2) KL58.out))
                      have n6_ := am_ ((show Kd.C k27 w62 A59 y250.length y250 from by rw [Ny250.out, KA59.out]; exact Kd.C_drop (m := ((ji28) : Int).toNat) (c := co49) ((Kd.R_reads' (Kd.R_after (ok := (fun k_ => some k_ ≠ (v238 : Value).ownBlock)) (by (with_reducible repeat (first | apply Kd.R_alloc | apply Kd.R_drewN | apply Kd.R_drew)); exact Kd.R_mono HO_0.out (fun _ hk => ⟨hk.1.2, hk.2⟩)) hg hat)).2.2) KL59.out ((Kd.R_reads' (Kd.R_after (ok := (fun k_ => some k_ ≠ (v238 : Value).ownBlock)) (by (with_reducible repeat (first | apply Kd.R_alloc | apply Kd.R_drewN | apply Kd.R_drew)); exact Kd.R_mono HO_0.out (fun _ hk => ⟨hk.1.2, hk.2⟩)) hg hat)).2.1)))
                      have n7_ := am_ (ho)
                      clear HO_0 HO239 HB HR229 HR236 HR246 HR253 HO242
                      have HO_0 := n0_
                      have HO239 := n1_
                      have HB := n2_
                      have HR229 := n3_
                      have HR236 := n4_
                      have HR246 := n5_
                      have HR253 := n6_
                      have HO249 := n7_
                      clear n0_ n1_ n2_ n3_ n4_ n5_ n6_ n7_ ho hb hg hat
                      refine hK.out _ _ trivial (fun hHeld => ?_)
                      clear hK K
                      refine norm_ (a' := ?_) ?_ ?_
                      rotate_left
                      ·show Act.put _ (some 41) _ = _
                       simp only [Act.put, sx_, s0_, s1_, i64_w, i32_w]
                       rfl
                      refine one_ (i := 9) (N := some 46) #[true, true, true, true, true, true, true, true, true, true, false] rfl rfl (one_of HT_.out kr_) (by decide) (fun K hK => ?_)
                      refine Kd.R_append_rows_step k27 (w0 := w) w.heap.size (by rfl) (.tmp 41) (.tmp 45) 22 27 (.agg #[(.int .i64 0), (.string ⟨#[]⟩), (.string ⟨#[]⟩), (.string ⟨#[]⟩), (.int .i64 0), (.string ⟨#[]⟩), (.bool false), (.int .i64 0)]) 96 rfl Tryd.underlying22 info27 rfl (by decide) (by omega) v248 y247 y250 _ _ _ (fun k_ => some k_ ≠ (.slice Ao49 t217.length co49 : Value).ownBlock ∧ some k_ ≠ (v238 : Value).ownBlock) (fun _ => False) rfl rfl ?aO ?aR (fun _ _ h => h) (fun _ h => h.elim) ?aF ?aB ?aS ?aL ?_
                      (case aR => repeat (first | exact (by repeat (first | (with_reducible exact HR253.out) | (with_reducible refine Kd.C_alloc ?_ _) | (with_reducible refine Kd.C_drewN ?_ _) | (with_reducible refine Kd.C_drew ?_) | exact HR253.out)) | (with_reducible refine Kd.C_alloc ?_ _) | (with_reducible refine Kd.C_drewN ?_ _) | (with_reducible refine Kd.C_drew ?_)))
                      (case aB => exact (bel_ HB.out))
                      (case aF => exact (fun k_ hk => ⟨Kd.fresh' (Kd.R_lt (R_ HO_0.out)) k_ hk, Kd.fresh' (Kd.R_lt (R_ HO239.out)) k_ hk⟩))
                      (case aO => exact (R_ HO249.out))
                      (case aS => exact (below_size (bel_ HB.out)))
                      (case aL => have := LMc31.out; omega)
                      intro v255 w63 ho hb hg hat
                      rw [← Ny254.out] at ho
                      have n0_ := am_ (Kd.R_after (ok := (fun k_ => some k_ ≠ (v238 : Value).ownBlock)) (R_ HO_0.out) hg hat)
                      have n1_ := am_ (Kd.R_after (ok := (fun k_ => some k_ ≠ (.slice Ao49 t217.length co49 : Value).ownBlock)) (R_ HO239.out) hg hat)
                      have n2_ := am_ (hb)
                      have n3_ := am_ ((show Kd.C k27 w63 A51 y226.length y226 from by rw [Ny226.out, KA51.out]; exact Kd.C_drop (m := ((ji18) : Int).toNat) (c := co49) ((Kd.R_reads' (Kd.R_after (ok := (fun k_ => some k_ ≠ (v238 : Value).ownBlock)) (R_ HO_0.out) hg hat)).2.2) KL51.out ((Kd.R_reads' (Kd.R_after (ok := (fun k_ => some k_ ≠ (v238 : Value).ownBlock)) (R_ HO_0.out) hg hat)).2.1)))
                      have n4_ := am_ ((show Kd.C k27 w63 Ao49 y233.length y233 from by rw [Ny233.out]; exact Kd.C_take (m := ((ji18) : Int).toNat) ((Kd.R_reads' (Kd.R_after (ok := (fun k_ => some k_ ≠ (v238 : Value).ownBlock)) (R_ HO_0.out) hg hat)).2.2) KL52.out))
                      have n5_ := am_ ((show Kd.C k27 w63 Ao49 y243.length y243 from by rw [Ny243.out]; exact Kd.C_take (m := ((ji18) : Int).toNat) ((Kd.R_reads' (Kd.R_after (ok := (fun k_ => some k_ ≠ (v238 : Value).ownBlock)) (R_ HO_0.out) hg hat)).2.2) KL58.out))
                      have n6_ := am_ ((show Kd.C k27 w63 A59 y250.length y250 from by rw [Ny250.out, KA59.out]; exact Kd.C_drop (m := ((ji28) : Int).toNat) (c := co49) ((Kd.R_reads' (Kd.R_after (ok := (fun k_ => some k_ ≠ (v238 : Value).ownBlock)) (R_ HO_0.out) hg hat)).2.2) KL59.out ((Kd.R_reads' (Kd.R_after (ok := (fun k_ => some k_ ≠ (v238 : Value).ownBlock)) (R_ HO_0.out) hg hat)).2.1)))
                      have n7_ := am_ (ho)
                      clear HO_0 HO239 HB HR229 HR236 HR246 HR253 HO249
                      have HO_0 := n0_
                      have HO239 := n1_
                      have HB := n2_
                      have HR229 := n3_
                      have HR236 := n4_
                      have HR246 := n5_
                      have HR253 := n6_
                      have HO256 := n7_
                      clear n0_ n1_ n2_ n3_ n4_ n5_ n6_ n7_ ho hb hg hat
                      refine hK.out _ _ trivial (fun hHeld => ?_)
                      clear hK K
                      refine norm_ (a' := ?_) ?_ ?_
                      rotate_left
                      ·show Act.put _ (some 46) _ = _
                       simp only [Act.put, sx_, s0_, s1_, i64_w, i32_w]
                       rfl
                      refine pure_ (i := 10) (N := some 7) (v := ?_) (a' := ?_) #[true, true, true, true, true, true, true, true, true, true, true] rfl rfl (any_of HT_.out kr_) (fun _ _ _ h => h) (Or.inl ⟨by rfl, ?_⟩) ?_ ?_
                      rotate_left
                      ·intro w'
                       go_simp
                       with_reducible rfl
                      rotate_left
                      ·simp only [Act.put, sx_, s0_, s1_, i64_w, i32_w]
                       rfl
                      refine done_ (done_of HT_.out kr_) ?_
                      try go_wp2
                      have n0_ := am_ (Kd.R_drew HO_0.out)
                      have n1_ := am_ (Kd.R_drew HO239.out)
                      have n2_ := am_ (Kd.R_drew HO256.out)
                      have n3_ := am_ (Kd.C_drew HR229.out)
                      have n4_ := am_ (Kd.C_drew HR236.out)
                      have n5_ := am_ (Kd.C_drew HR246.out)
                      have n6_ := am_ (Kd.C_drew HR253.out)
                      have n7_ := am_ (below_drew1 HB.out)
                      clear HO_0 HO239 HO256 HR229 HR236 HR246 HR253 HB
                      have HO_0 := n0_
                      have HO239 := n1_
                      have HO256 := n2_
                      have HR229 := n3_
                      have HR236 := n4_
                      have HR246 := n5_
                      have HR253 := n6_
                      have HB := n7_
                      clear n0_ n1_ n2_ n3_ n4_ n5_ n6_ n7_
                      have p263 : 0 ≤ ((ji18) : Int) := of_decide_eq_true as_
                      have q263 : (ji18) < (t217.length : Int) := of_decide_eq_true as_
                      obtain ⟨ad263, e263, hx263_0, hx263_1, hx263_2, hx263_3, hx263_4, hx263_5, hx263_6, hx263_7⟩ := at_T27 (Kd.R_reads' HO_0.out).2.2 (ji18) p263 q263
                      cases e263
                      replace p263 := eq_true p263
                      replace q263 := eq_true q263
                      refine start_ (n := 10) (S := fun w' => w'.cell? (ad263.add (((ji18)).toNat * 8)) = some (.int .i64 ((rd_T27 t217 (ji18)).f0)) ∧ w'.cell? ⟨(ad263.add (((ji18)).toNat * 8)).block, (ad263.add (((ji18)).toNat * 8)).off + 1, none⟩ = some (.string ((rd_T27 t217 (ji18)).f1)) ∧ w'.cell? ⟨(ad263.add (((ji18)).toNat * 8)).block, (ad263.add (((ji18)).toNat * 8)).off + 2, none⟩ = some (.string ((rd_T27 t217 (ji18)).f2)) ∧ w'.cell? ⟨(ad263.add (((ji18)).toNat * 8)).block, (ad263.add (((ji18)).toNat * 8)).off + 3, none⟩ = some (.string ((rd_T27 t217 (ji18)).f3)) ∧ w'.cell? ⟨(ad263.add (((ji18)).toNat * 8)).block, (ad263.add (((ji18)).toNat * 8)).off + 4, none⟩ = some (.int .i64 ((rd_T27 t217 (ji18)).f4)) ∧ w'.cell? ⟨(ad263.add (((ji18)).toNat * 8)).block, (ad263.add (((ji18)).toNat * 8)).off + 5, none⟩ = some (.string ((rd_T27 t217 (ji18)).f5)) ∧ w'.cell? ⟨(ad263.add (((ji18)).toNat * 8)).block, (ad263.add (((ji18)).toNat * 8)).off + 6, none⟩ = some (.bool ((rd_T27 t217 (ji18)).f6)) ∧ w'.cell? ⟨(ad263.add (((ji18)).toNat * 8)).block, (ad263.add (((ji18)).toNat * 8)).off + 7, none⟩ = some (.int .i64 ((rd_T27 t217 (ji18)).f7))) (ds := []) #[false, false, false, false, false, false, false, false, false, false] kr_ rfl rfl ⟨hx263_0, hx263_1, hx263_2, hx263_3, hx263_4, hx263_5, hx263_6, hx263_7⟩ (fun hHeld => ?_); refine with_tabW tolllaw07_FilterOnce.tab7 tolllaw07_FilterOnce.bits7 (fun HT_ HW_ => ?_)
                      generalize w63.drew = w64 at HO_0 HO239 HO256 HR229 HR236 HR246 HR253 HB hx263_0 hx263_1 hx263_2 hx263_3 hx263_4 hx263_5 hx263_6 hx263_7 hHeld ⊢
                      refine pure_ (i := 1) (N := some 48) (v := ?_) (a' := ?_) #[false, true, false, false, false, false, false, false, false, false] rfl rfl (any_of HT_.out kr_) (fun _ _ _ h => h) (Or.inl ⟨by rfl, ?_⟩) ?_ ?_
                      rotate_left
                      ·intro w'
                       go_simp
                       with_reducible rfl
                      rotate_left
                      ·simp only [Act.put, sx_, s0_, s1_, i64_w, i32_w]
                       rfl
                      refine pure_ (i := 3) (N := some 50) (v := ?_) (a' := ?_) #[false, true, false, true, false, false, false, false, false, false] rfl rfl (any_of HT_.out kr_) (fun _ _ _ h => h) (Or.inl ⟨by rfl, ?_⟩) ?_ ?_
                      rotate_left
                      ·intro w'
                       go_simp
                       with_reducible rfl
                      rotate_left
                      ·simp only [Act.put, sx_, s0_, s1_, i64_w, i32_w]
                       rfl
                      refine pure_ (i := 4) (N := some 51) (v := ?_) (a' := ?_) #[false, true, false, true, true, false, false, false, false, false] rfl rfl (any_of HT_.out kr_) (fun _ _ _ h => h) (Or.inl ⟨by rfl, ?_⟩) ?_ ?_
                      rotate_left
                      ·intro w'
                       go_simp
                       with_reducible rfl
                      rotate_left
                      ·simp only [Act.put, sx_, s0_, s1_, i64_w, i32_w]
                       rfl
                      refine pure_ (i := 5) (N := some 52) (v := ?_) (a' := ?_) #[false, true, false, true, true, true, false, false, false, false] rfl rfl (any_of HT_.out kr_) (fun _ _ _ h => h) (Or.inl ⟨by rfl, ?_⟩) ?_ ?_
                      rotate_left
                      ·intro w'
                       go_simp
                       with_reducible rfl
                      rotate_left
                      ·simp only [Act.put, sx_, s0_, s1_, i64_w, i32_w]
                       rfl
                      refine take_ (i := 6) (N := some 53) (v := ?_) (a' := ?_) #[false, true, false, true, true, true, true, false, false, false] rfl rfl (take_ofW HT_.out HW_.out kr_) (fun _ _ _ h => h) (Or.inl ⟨by rfl, ?_⟩) hHeld ?_ ?_
                      rotate_left
                      ·rintro w' ⟨s0, s1, s2, s3, s4, s5, s6, s7⟩
                       go_simp
                       with_reducible rfl
                      rotate_left
                      ·simp only [Act.put, sx_, s0_, s1_, i64_w, i32_w]
                       rfl
                      refine join_ (σ := Value × Value × Value) 2 #[true, true, true, true, true, true, true, true, false, false] (fun s_ => [(47, s_.1), (49, s_.2.1), (54, s_.2.2)]) (fun s_ w' => (w'.cell? (ad263.add (((ji18)).toNat * 8)) = some (.int .i64 ((rd_T27 t217 (ji18)).f0)) ∧ w'.cell? ⟨(ad263.add (((ji18)).toNat * 8)).block, (ad263.add (((ji18)).toNat * 8)).off + 1, none⟩ = some (.string ((rd_T27 t217 (ji18)).f1)) ∧ w'.cell? ⟨(ad263.add (((ji18)).toNat * 8)).block, (ad263.add (((ji18)).toNat * 8)).off + 2, none⟩ = some (.string ((rd_T27 t217 (ji18)).f2)) ∧ w'.cell? ⟨(ad263.add (((ji18)).toNat * 8)).block, (ad263.add (((ji18)).toNat * 8)).off + 3, none⟩ = some (.string ((rd_T27 t217 (ji18)).f3)) ∧ w'.cell? ⟨(ad263.add (((ji18)).toNat * 8)).block, (ad263.add (((ji18)).toNat * 8)).off + 4, none⟩ = some (.int .i64 ((rd_T27 t217 (ji18)).f4)) ∧ w'.cell? ⟨(ad263.add (((ji18)).toNat * 8)).block, (ad263.add (((ji18)).toNat * 8)).off + 5, none⟩ = some (.string ((rd_T27 t217 (ji18)).f5)) ∧ w'.cell? ⟨(ad263.add (((ji18)).toNat * 8)).block, (ad263.add (((ji18)).toNat * 8)).off + 6, none⟩ = some (.bool ((rd_T27 t217 (ji18)).f6)) ∧ w'.cell? ⟨(ad263.add (((ji18)).toNat * 8)).block, (ad263.add (((ji18)).toNat * 8)).off + 7, none⟩ = some (.int .i64 ((rd_T27 t217 (ji18)).f7))) ∧ (Kd.R k27 27 w' w.heap.size (fun k_ => some k_ ≠ (v255 : Value).ownBlock ∧ some k_ ≠ (s_.2.1 : Value).ownBlock ∧ some k_ ≠ (s_.2.2 : Value).ownBlock ∧ some k_ ≠ (.slice (some ad263) t217.length co49 : Value).ownBlock) v238 y237) ∧ (Kd.R k27 27 w' w.heap.size (fun k_ => some k_ ≠ (v238 : Value).ownBlock ∧ some k_ ≠ (s_.2.1 : Value).ownBlock ∧ some k_ ≠ (s_.2.2 : Value).ownBlock ∧ some k_ ≠ (.slice (some ad263) t217.length co49 : Value).ownBlock) v255 y254) ∧ (Kd.R k27 27 w' w.heap.size (fun k_ => some k_ ≠ (v238 : Value).ownBlock ∧ some k_ ≠ (v255 : Value).ownBlock ∧ some k_ ≠ (s_.2.2 : Value).ownBlock ∧ some k_ ≠ (.slice (some ad263) t217.length co49 : Value).ownBlock) s_.2.1 y260) ∧ (Kd.R k27 27 w' w.heap.size (fun k_ => some k_ ≠ (v238 : Value).ownBlock ∧ some k_ ≠ (v255 : Value).ownBlock ∧ some k_ ≠ (s_.2.1 : Value).ownBlock ∧ some k_ ≠ (.slice (some ad263) t217.length co49 : Value).ownBlock) s_.2.2 y264) ∧ (Kd.R k27 27 w' w.heap.size (fun k_ => some k_ ≠ (v238 : Value).ownBlock ∧ some k_ ≠ (v255 : Value).ownBlock ∧ some k_ ≠ (s_.2.1 : Value).ownBlock ∧ some k_ ≠ (s_.2.2 : Value).ownBlock) (.slice (some ad263) t217.length co49) t217) ∧ (Below w.heap.size w w')) ?_ ?_
                      rotate_left
                      ·intro hCont
                       refine two_ (i := 0) (j := 7) (Ni := some 47) (Nj := some 54) #[true, true, false, true, true, true, true, false, false, false] #[false, true, false, true, true, true, true, true, false, false] rfl rfl rfl rfl (two_of HT_.out kr_) (by decide) (by decide) (fun K hK => ?_) (fun K hK => ?_)
                       ·skip
                        refine Kd.R_lit_step k27 _ 27 ?hg (N := 47) ?hd (xs := ([] : List (S27))) (inner := []) (ok := fun _ => True) (okp := fun _ => True) ?hr ?hp (fun _ hk => hk) trivial (Below.refl _ _) (Nat.le_refl _) (by simp) ?_; (case hd => rfl); (case hg => rfl); (case hr => first | (go_simp; done) | (go_simp; rfl)); (case hp => exact (Reps.none _ _))
                        intro v258 w65 ho66 hb hg_ hnew_
                        have HS0_ := (hb.cell (World.block_lt_of_cell? _ _ (hHeld.1))).trans (hHeld.1)
                        have HS1_ := (hb.cell (World.block_lt_of_cell? _ _ (hHeld.2.1))).trans (hHeld.2.1)
                        have HS2_ := (hb.cell (World.block_lt_of_cell? _ _ (hHeld.2.2.1))).trans (hHeld.2.2.1)
                        have HS3_ := (hb.cell (World.block_lt_of_cell? _ _ (hHeld.2.2.2.1))).trans (hHeld.2.2.2.1)
                        have HS4_ := (hb.cell (World.block_lt_of_cell? _ _ (hHeld.2.2.2.2.1))).trans (hHeld.2.2.2.2.1)
                        have HS5_ := (hb.cell (World.block_lt_of_cell? _ _ (hHeld.2.2.2.2.2.1))).trans (hHeld.2.2.2.2.2.1)
                        have HS6_ := (hb.cell (World.block_lt_of_cell? _ _ (hHeld.2.2.2.2.2.2.1))).trans (hHeld.2.2.2.2.2.2.1)
                        have HS7_ := (hb.cell (World.block_lt_of_cell? _ _ (hHeld.2.2.2.2.2.2.2))).trans (hHeld.2.2.2.2.2.2.2)
                        clear hg_ hnew_
                        (first | rw [← Ny257.out] at ho66 | (simp only [Int.reduceToNat] at ho66; rw [← Ny257.out] at ho66))
                        have n0_ := am_ (Kd.R_elder' (R_ HO_0.out) (Kd.R_base ho66) hb)
                        have n1_ := am_ (Kd.R_elder' (R_ HO239.out) (Kd.R_base ho66) hb)
                        have n2_ := am_ (Kd.R_elder' (R_ HO256.out) (Kd.R_base ho66) hb)
                        have n3_ := am_ (Kd.R_lower (Kd.R_new' (Kd.R_new' (Kd.R_new' ho66 (Kd.R_lt (R_ HO_0.out))) (Kd.R_lt (R_ HO239.out))) (Kd.R_lt (R_ HO256.out))) (below_size (bel_ HB.out)))
                        have n4_ := am_ (Kd.C_below (by repeat (first | (with_reducible exact HR229.out) | (with_reducible refine Kd.C_alloc ?_ _) | (with_reducible refine Kd.C_drewN ?_ _) | (with_reducible refine Kd.C_drew ?_) | exact HR229.out)) hb)
                        have n5_ := am_ (Kd.C_below (by repeat (first | (with_reducible exact HR236.out) | (with_reducible refine Kd.C_alloc ?_ _) | (with_reducible refine Kd.C_drewN ?_ _) | (with_reducible refine Kd.C_drew ?_) | exact HR236.out)) hb)
                        have n6_ := am_ (Kd.C_below (by repeat (first | (with_reducible exact HR246.out) | (with_reducible refine Kd.C_alloc ?_ _) | (with_reducible refine Kd.C_drewN ?_ _) | (with_reducible refine Kd.C_drew ?_) | exact HR246.out)) hb)
                        have n7_ := am_ (Kd.C_below (by repeat (first | (with_reducible exact HR253.out) | (with_reducible refine Kd.C_alloc ?_ _) | (with_reducible refine Kd.C_drewN ?_ _) | (with_reducible refine Kd.C_drew ?_) | exact HR253.out)) hb)
                        have n8_ := am_ (below_step (bel_ HB.out) hb)
                        clear HO_0 HO239 HO256 HR229 HR236 HR246 HR253 HB
                        have HO_0 := n0_
                        have HO239 := n1_
                        have HO256 := n2_
                        have HO259 := n3_
                        have HR229 := n4_
                        have HR236 := n5_
                        have HR246 := n6_
                        have HR253 := n7_
                        have HB := n8_
                        clear n0_ n1_ n2_ n3_ n4_ n5_ n6_ n7_ n8_ hb ho66
                        refine hK.out _ _ ⟨HS0_, HS1_, HS2_, HS3_, HS4_, HS5_, HS6_, HS7_⟩ (fun hHeld => ?_)
                        clear hK K
                        refine norm_ (a' := ?_) ?_ ?_
                        rotate_left
                        ·show Act.put _ (some 47) _ = _
                         simp only [Act.put, sx_, s0_, s1_, i64_w, i32_w]
                         rfl
                        refine two_ (i := 2) (j := 7) (Ni := some 49) (Nj := some 54) #[true, true, true, true, true, true, true, false, false, false] #[true, true, false, true, true, true, true, true, false, false] rfl rfl rfl rfl (two_of HT_.out kr_) (by decide) (by decide) (fun K hK => ?_) (fun K hK => ?_)
                        ·skip
                         refine Kd.R_append_rows_step k27 (w0 := w) w.heap.size (by rfl) (.tmp 47) (.tmp 48) 22 27 (.agg #[(.int .i64 0), (.string ⟨#[]⟩), (.string ⟨#[]⟩), (.string ⟨#[]⟩), (.int .i64 0), (.string ⟨#[]⟩), (.bool false), (.int .i64 0)]) 96 rfl Tryd.underlying22 info27 rfl (by decide) (by omega) v258 y257 t217 _ _ _ (fun k_ => some k_ ≠ (.slice (some ad263) t217.length co49 : Value).ownBlock ∧ some k_ ≠ (v238 : Value).ownBlock ∧ some k_ ≠ (v255 : Value).ownBlock) (fun _ => False) rfl rfl ?aO ?aR (fun _ _ h => h) (fun _ h => h.elim) ?aF ?aB ?aS ?aL ?_
                         (case aR => exact C_ (Kd.R_reads' HO_0.out).2.2)
                         (case aB => exact (bel_ HB.out))
                         (case aF => exact (fun k_ hk => ⟨Kd.fresh' (Kd.R_lt (R_ HO_0.out)) k_ hk, Kd.fresh' (Kd.R_lt (R_ HO239.out)) k_ hk, Kd.fresh' (Kd.R_lt (R_ HO256.out)) k_ hk⟩))
                         (case aO => exact (by (with_reducible repeat (first | apply Kd.R_alloc | apply Kd.R_drewN | apply Kd.R_drew)); exact Kd.R_mono HO259.out (fun _ hk => ⟨hk.1.1.2, ⟨hk.1.2, hk.2⟩⟩)))
                         (case aS => exact (below_size (bel_ HB.out)))
                         (case aL => have := LMc32.out; omega)
                         intro v261 w67 ho hb hg hat
                         have HS0_ := cell_grown hg (hHeld.1) (by first | (rw [add_block]; exact (fun e_ => (((R_ HO259.out).1 _ e_.symm).1.1.2) rfl)) | (show some (Addr.add _ _).block ≠ _; rw [add_block]; exact (fun e_ => (((R_ HO259.out).1 _ e_.symm).1.1.2) rfl)) | exact (fun e_ => (((R_ HO259.out).1 _ e_.symm).1.1.2) rfl))
                         have HS1_ := cell_grown hg (hHeld.2.1) (by first | (rw [add_block]; exact (fun e_ => (((R_ HO259.out).1 _ e_.symm).1.1.2) rfl)) | (show some (Addr.add _ _).block ≠ _; rw [add_block]; exact (fun e_ => (((R_ HO259.out).1 _ e_.symm).1.1.2) rfl)) | exact (fun e_ => (((R_ HO259.out).1 _ e_.symm).1.1.2) rfl))
                         have HS2_ := cell_grown hg (hHeld.2.2.1) (by first | (rw [add_block]; exact (fun e_ => (((R_ HO259.out).1 _ e_.symm).1.1.2) rfl)) | (show some (Addr.add _ _).block ≠ _; rw [add_block]; exact (fun e_ => (((R_ HO259.out).1 _ e_.symm).1.1.2) rfl)) | exact (fun e_ => (((R_ HO259.out).1 _ e_.symm).1.1.2) rfl))
                         have HS3_ := cell_grown hg (hHeld.2.2.2.1) (by first | (rw [add_block]; exact (fun e_ => (((R_ HO259.out).1 _ e_.symm).1.1.2) rfl)) | (show some (Addr.add _ _).block ≠ _; rw [add_block]; exact (fun e_ => (((R_ HO259.out).1 _ e_.symm).1.1.2) rfl)) | exact (fun e_ => (((R_ HO259.out).1 _ e_.symm).1.1.2) rfl))
                         have HS4_ := cell_grown hg (hHeld.2.2.2.2.1) (by first | (rw [add_block]; exact (fun e_ => (((R_ HO259.out).1 _ e_.symm).1.1.2) rfl)) | (show some (Addr.add _ _).block ≠ _; rw [add_block]; exact (fun e_ => (((R_ HO259.out).1 _ e_.symm).1.1.2) rfl)) | exact (fun e_ => (((R_ HO259.out).1 _ e_.symm).1.1.2) rfl))
                         have HS5_ := cell_grown hg (hHeld.2.2.2.2.2.1) (by first | (rw [add_block]; exact (fun e_ => (((R_ HO259.out).1 _ e_.symm).1.1.2) rfl)) | (show some (Addr.add _ _).block ≠ _; rw [add_block]; exact (fun e_ => (((R_ HO259.out).1 _ e_.symm).1.1.2) rfl)) | exact (fun e_ => (((R_ HO259.out).1 _ e_.symm).1.1.2) rfl))
                         have HS6_ := cell_grown hg (hHeld.2.2.2.2.2.2.1) (by first | (rw [add_block]; exact (fun e_ => (((R_ HO259.out).1 _ e_.symm).1.1.2) rfl)) | (show some (Addr.add _ _).block ≠ _; rw [add_block]; exact (fun e_ => (((R_ HO259.out).1 _ e_.symm).1.1.2) rfl)) | exact (fun e_ => (((R_ HO259.out).1 _ e_.symm).1.1.2) rfl))
                         have HS7_ := cell_grown hg (hHeld.2.2.2.2.2.2.2) (by first | (rw [add_block]; exact (fun e_ => (((R_ HO259.out).1 _ e_.symm).1.1.2) rfl)) | (show some (Addr.add _ _).block ≠ _; rw [add_block]; exact (fun e_ => (((R_ HO259.out).1 _ e_.symm).1.1.2) rfl)) | exact (fun e_ => (((R_ HO259.out).1 _ e_.symm).1.1.2) rfl))
                         rw [← Ny260.out] at ho
                         have n0_ := am_ (Kd.R_after (ok := (fun k_ => some k_ ≠ (v238 : Value).ownBlock ∧ some k_ ≠ (v255 : Value).ownBlock)) (R_ HO_0.out) hg hat)
                         have n1_ := am_ (Kd.R_after (ok := (fun k_ => some k_ ≠ (.slice (some ad263) t217.length co49 : Value).ownBlock ∧ some k_ ≠ (v255 : Value).ownBlock)) (R_ HO239.out) hg hat)
                         have n2_ := am_ (Kd.R_after (ok := (fun k_ => some k_ ≠ (.slice (some ad263) t217.length co49 : Value).ownBlock ∧ some k_ ≠ (v238 : Value).ownBlock)) (R_ HO256.out) hg hat)
                         have n3_ := am_ (hb)
                         have n4_ := am_ ((show Kd.C k27 w67 A51 y226.length y226 from by rw [Ny226.out, KA51.out]; exact Kd.C_drop (m := ((ji18) : Int).toNat) (c := co49) ((Kd.R_reads' (Kd.R_after (ok := (fun k_ => some k_ ≠ (v238 : Value).ownBlock ∧ some k_ ≠ (v255 : Value).ownBlock)) (R_ HO_0.out) hg hat)).2.2) KL51.out ((Kd.R_reads' (Kd.R_after (ok := (fun k_ => some k_ ≠ (v238 : Value).ownBlock ∧ some k_ ≠ (v255 : Value).ownBlock)) (R_ HO_0.out) hg hat)).2.1)))
                         have n5_ := am_ ((show Kd.C k27 w67 (some ad263) y233.length y233 from by rw [Ny233.out]; exact Kd.C_take (m := ((ji18) : Int).toNat) ((Kd.R_reads' (Kd.R_after (ok := (fun k_ => some k_ ≠ (v238 : Value).ownBlock ∧ some k_ ≠ (v255 : Value).ownBlock)) (R_ HO_0.out) hg hat)).2.2) KL52.out))
                         have n6_ := am_ ((show Kd.C k27 w67 (some ad263) y243.length y243 from by rw [Ny243.out]; exact Kd.C_take (m := ((ji18) : Int).toNat) ((Kd.R_reads' (Kd.R_after (ok := (fun k_ => some k_ ≠ (v238 : Value).ownBlock ∧ some k_ ≠ (v255 : Value).ownBlock)) (R_ HO_0.out) hg hat)).2.2) KL58.out))
                         have n7_ := am_ ((show Kd.C k27 w67 A59 y250.length y250 from by rw [Ny250.out, KA59.out]; exact Kd.C_drop (m := ((ji28) : Int).toNat) (c := co49) ((Kd.R_reads' (Kd.R_after (ok := (fun k_ => some k_ ≠ (v238 : Value).ownBlock ∧ some k_ ≠ (v255 : Value).ownBlock)) (R_ HO_0.out) hg hat)).2.2) KL59.out ((Kd.R_reads' (Kd.R_after (ok := (fun k_ => some k_ ≠ (v238 : Value).ownBlock ∧ some k_ ≠ (v255 : Value).ownBlock)) (R_ HO_0.out) hg hat)).2.1)))
                         have n8_ := am_ (ho)
                         clear HO_0 HO239 HO256 HB HR229 HR236 HR246 HR253 HO259
                         have HO_0 := n0_
                         have HO239 := n1_
                         have HO256 := n2_
                         have HB := n3_
                         have HR229 := n4_
                         have HR236 := n5_
                         have HR246 := n6_
                         have HR253 := n7_
                         have HO262 := n8_
                         clear n0_ n1_ n2_ n3_ n4_ n5_ n6_ n7_ n8_ ho hb hg hat
                         refine hK.out _ _ ⟨HS0_, HS1_, HS2_, HS3_, HS4_, HS5_, HS6_, HS7_⟩ (fun hHeld => ?_)
                         clear hK K
                         refine norm_ (a' := ?_) ?_ ?_
                         rotate_left
                         ·show Act.put _ (some 49) _ = _
                          simp only [Act.put, sx_, s0_, s1_, i64_w, i32_w]
                          rfl
                         refine one_ (i := 7) (N := some 54) #[true, true, true, true, true, true, true, true, false, false] rfl rfl (one_of HT_.out kr_) (by decide) (fun K hK => ?_)
                         refine Kd.R_lit_step k27 _ 27 ?hg (N := 54) ?hd (xs := ([(⟨(rd_T27 t217 (ji18)).f0, (rd_T27 t217 (ji18)).f1, (rd_T27 t217 (ji18)).f2, (rd_T27 t217 (ji18)).f3, (rd_T27 t217 (ji18)).f4, (rd_T27 t217 (ji18)).f5, (rd_T27 t217 (ji18)).f6, (rd_T27 t217 (ji18)).f7⟩ : S27)] : List (S27))) (inner := [.int .i64 ((rd_T27 t217 (ji18)).f0), .string ((rd_T27 t217 (ji18)).f1), .string ((rd_T27 t217 (ji18)).f2), .string ((rd_T27 t217 (ji18)).f3), .int .i64 ((rd_T27 t217 (ji18)).f4), .string ((rd_T27 t217 (ji18)).f5), .bool ((rd_T27 t217 (ji18)).f6), .int .i64 ((rd_T27 t217 (ji18)).f7)]) (ok := fun _ => True) (okp := fun _ => True) ?hr ?hp (fun _ hk => hk) trivial (Below.refl _ _) (Nat.le_refl _) (by simp) ?_; (case hd => rfl); (case hg => rfl); (case hr => first | (go_simp; done) | (go_simp; rfl)); (case hp => exact (Reps.c8 (show Kd.M k27 _ _ _ (⟨(rd_T27 t217 (ji18)).f0, (rd_T27 t217 (ji18)).f1, (rd_T27 t217 (ji18)).f2, (rd_T27 t217 (ji18)).f3, (rd_T27 t217 (ji18)).f4, (rd_T27 t217 (ji18)).f5, (rd_T27 t217 (ji18)).f6, (rd_T27 t217 (ji18)).f7⟩ : S27) [.int .i64 ((rd_T27 t217 (ji18)).f0), .string ((rd_T27 t217 (ji18)).f1), .string ((rd_T27 t217 (ji18)).f2), .string ((rd_T27 t217 (ji18)).f3), .int .i64 ((rd_T27 t217 (ji18)).f4), .string ((rd_T27 t217 (ji18)).f5), .bool ((rd_T27 t217 (ji18)).f6), .int .i64 ((rd_T27 t217 (ji18)).f7)] from (k27_mkM _ _ _ (⟨(rd_T27 t217 (ji18)).f0, (rd_T27 t217 (ji18)).f1, (rd_T27 t217 (ji18)).f2, (rd_T27 t217 (ji18)).f3, (rd_T27 t217 (ji18)).f4, (rd_T27 t217 (ji18)).f5, (rd_T27 t217 (ji18)).f6, (rd_T27 t217 (ji18)).f7⟩ : S27) )) (Reps.none _ _)))
                         intro v265 w68 ho69 hb hg_ hnew_
                         have HS0_ := (hb.cell (World.block_lt_of_cell? _ _ (hHeld.1))).trans (hHeld.1)
                         have HS1_ := (hb.cell (World.block_lt_of_cell? _ _ (hHeld.2.1))).trans (hHeld.2.1)
                         have HS2_ := (hb.cell (World.block_lt_of_cell? _ _ (hHeld.2.2.1))).trans (hHeld.2.2.1)
                         have HS3_ := (hb.cell (World.block_lt_of_cell? _ _ (hHeld.2.2.2.1))).trans (hHeld.2.2.2.1)
                         have HS4_ := (hb.cell (World.block_lt_of_cell? _ _ (hHeld.2.2.2.2.1))).trans (hHeld.2.2.2.2.1)
                         have HS5_ := (hb.cell (World.block_lt_of_cell? _ _ (hHeld.2.2.2.2.2.1))).trans (hHeld.2.2.2.2.2.1)
                         have HS6_ := (hb.cell (World.block_lt_of_cell? _ _ (hHeld.2.2.2.2.2.2.1))).trans (hHeld.2.2.2.2.2.2.1)
                         have HS7_ := (hb.cell (World.block_lt_of_cell? _ _ (hHeld.2.2.2.2.2.2.2))).trans (hHeld.2.2.2.2.2.2.2)
                         clear hg_ hnew_
                         (first | rw [← Ny264.out] at ho69 | (simp only [Int.reduceToNat] at ho69; rw [← Ny264.out] at ho69))
                         have n0_ := am_ (Kd.R_elder' (R_ HO_0.out) (Kd.R_base ho69) hb)
                         have n1_ := am_ (Kd.R_elder' (R_ HO239.out) (Kd.R_base ho69) hb)
                         have n2_ := am_ (Kd.R_elder' (R_ HO256.out) (Kd.R_base ho69) hb)
                         have n3_ := am_ (Kd.R_elder' (R_ HO262.out) (Kd.R_base ho69) hb)
                         have n4_ := am_ (Kd.R_lower (Kd.R_new' (Kd.R_new' (Kd.R_new' (Kd.R_new' ho69 (Kd.R_lt (R_ HO_0.out))) (Kd.R_lt (R_ HO239.out))) (Kd.R_lt (R_ HO256.out))) (Kd.R_lt (R_ HO262.out))) (below_size (bel_ HB.out)))
                         have n5_ := am_ (Kd.C_below (by repeat (first | (with_reducible exact HR229.out) | (with_reducible refine Kd.C_alloc ?_ _) | (with_reducible refine Kd.C_drewN ?_ _) | (with_reducible refine Kd.C_drew ?_) | exact HR229.out)) hb)
                         have n6_ := am_ (Kd.C_below (by repeat (first | (with_reducible exact HR236.out) | (with_reducible refine Kd.C_alloc ?_ _) | (with_reducible refine Kd.C_drewN ?_ _) | (with_reducible refine Kd.C_drew ?_) | exact HR236.out)) hb)
                         have n7_ := am_ (Kd.C_below (by repeat (first | (with_reducible exact HR246.out) | (with_reducible refine Kd.C_alloc ?_ _) | (with_reducible refine Kd.C_drewN ?_ _) | (with_reducible refine Kd.C_drew ?_) | exact HR246.out)) hb)
                         have n8_ := am_ (Kd.C_below (by repeat (first | (with_reducible exact HR253.out) | (with_reducible refine Kd.C_alloc ?_ _) | (with_reducible refine Kd.C_drewN ?_ _) | (with_reducible refine Kd.C_drew ?_) | exact HR253.out)) hb)
                         have n9_ := am_ (below_step (bel_ HB.out) hb)
                         clear HO_0 HO239 HO256 HO262 HR229 HR236 HR246 HR253 HB
                         have HO_0 := n0_
                         have HO239 := n1_
                         have HO256 := n2_
                         have HO262 := n3_
                         have HO266 := n4_
                         have HR229 := n5_
                         have HR236 := n6_
                         have HR246 := n7_
                         have HR253 := n8_
                         have HB := n9_
                         clear n0_ n1_ n2_ n3_ n4_ n5_ n6_ n7_ n8_ n9_ hb ho69
                         refine hK.out _ _ ⟨HS0_, HS1_, HS2_, HS3_, HS4_, HS5_, HS6_, HS7_⟩ (fun hHeld => ?_)
                         clear hK K
                         refine norm_ (a' := ?_) ?_ ?_
                         rotate_left
                         ·show Act.put _ (some 54) _ = _
                          simp only [Act.put, sx_, s0_, s1_, i64_w, i32_w]
                          rfl
                         exact norm_ (by simp only [putAll, Act.put, List.setIfInBounds_toArray, List.set_cons_zero, List.set_cons_succ]) (hCont (v258, v261, v265) _ ⟨hHeld, (by (with_reducible repeat (first | apply Kd.R_alloc | apply Kd.R_drewN | apply Kd.R_drew)); exact Kd.R_mono HO239.out (fun _ hk => ⟨hk.1.1.2, ⟨hk.1.2, ⟨hk.2, hk.1.1.1⟩⟩⟩)), (by (with_reducible repeat (first | apply Kd.R_alloc | apply Kd.R_drewN | apply Kd.R_drew)); exact Kd.R_mono HO256.out (fun _ hk => ⟨hk.1.1.2, ⟨hk.1.2, ⟨hk.2, hk.1.1.1⟩⟩⟩)), (by (with_reducible repeat (first | apply Kd.R_alloc | apply Kd.R_drewN | apply Kd.R_drew)); exact Kd.R_mono HO262.out (fun _ hk => ⟨hk.1.2.1, ⟨hk.1.2.2, ⟨hk.2, hk.1.1⟩⟩⟩)), (by (with_reducible repeat (first | apply Kd.R_alloc | apply Kd.R_drewN | apply Kd.R_drew)); exact Kd.R_mono HO266.out (fun _ hk => ⟨hk.1.1.2, ⟨hk.1.2, ⟨hk.2, hk.1.1.1.2⟩⟩⟩)), (by (with_reducible repeat (first | apply Kd.R_alloc | apply Kd.R_drewN | apply Kd.R_drew)); exact Kd.R_mono HO_0.out (fun _ hk => ⟨hk.1.1.1, ⟨hk.1.1.2, ⟨hk.1.2, hk.2⟩⟩⟩)), (bel_ HB.out)⟩)
                        ·skip
                         refine Kd.R_lit_step k27 _ 27 ?hg (N := 54) ?hd (xs := ([(⟨(rd_T27 t217 (ji18)).f0, (rd_T27 t217 (ji18)).f1, (rd_T27 t217 (ji18)).f2, (rd_T27 t217 (ji18)).f3, (rd_T27 t217 (ji18)).f4, (rd_T27 t217 (ji18)).f5, (rd_T27 t217 (ji18)).f6, (rd_T27 t217 (ji18)).f7⟩ : S27)] : List (S27))) (inner := [.int .i64 ((rd_T27 t217 (ji18)).f0), .string ((rd_T27 t217 (ji18)).f1), .string ((rd_T27 t217 (ji18)).f2), .string ((rd_T27 t217 (ji18)).f3), .int .i64 ((rd_T27 t217 (ji18)).f4), .string ((rd_T27 t217 (ji18)).f5), .bool ((rd_T27 t217 (ji18)).f6), .int .i64 ((rd_T27 t217 (ji18)).f7)]) (ok := fun _ => True) (okp := fun _ => True) ?hr ?hp (fun _ hk => hk) trivial (Below.refl _ _) (Nat.le_refl _) (by simp) ?_; (case hd => rfl); (case hg => rfl); (case hr => first | (go_simp; done) | (go_simp; rfl)); (case hp => exact (Reps.c8 (show Kd.M k27 _ _ _ (⟨(rd_T27 t217 (ji18)).f0, (rd_T27 t217 (ji18)).f1, (rd_T27 t217 (ji18)).f2, (rd_T27 t217 (ji18)).f3, (rd_T27 t217 (ji18)).f4, (rd_T27 t217 (ji18)).f5, (rd_T27 t217 (ji18)).f6, (rd_T27 t217 (ji18)).f7⟩ : S27) [.int .i64 ((rd_T27 t217 (ji18)).f0), .string ((rd_T27 t217 (ji18)).f1), .string ((rd_T27 t217 (ji18)).f2), .string ((rd_T27 t217 (ji18)).f3), .int .i64 ((rd_T27 t217 (ji18)).f4), .string ((rd_T27 t217 (ji18)).f5), .bool ((rd_T27 t217 (ji18)).f6), .int .i64 ((rd_T27 t217 (ji18)).f7)] from (k27_mkM _ _ _ (⟨(rd_T27 t217 (ji18)).f0, (rd_T27 t217 (ji18)).f1, (rd_T27 t217 (ji18)).f2, (rd_T27 t217 (ji18)).f3, (rd_T27 t217 (ji18)).f4, (rd_T27 t217 (ji18)).f5, (rd_T27 t217 (ji18)).f6, (rd_T27 t217 (ji18)).f7⟩ : S27) )) (Reps.none _ _)))
                         intro v265 w67 ho68 hb hg_ hnew_
                         have HS0_ := (hb.cell (World.block_lt_of_cell? _ _ (hHeld.1))).trans (hHeld.1)
                         have HS1_ := (hb.cell (World.block_lt_of_cell? _ _ (hHeld.2.1))).trans (hHeld.2.1)
                         have HS2_ := (hb.cell (World.block_lt_of_cell? _ _ (hHeld.2.2.1))).trans (hHeld.2.2.1)
                         have HS3_ := (hb.cell (World.block_lt_of_cell? _ _ (hHeld.2.2.2.1))).trans (hHeld.2.2.2.1)
                         have HS4_ := (hb.cell (World.block_lt_of_cell? _ _ (hHeld.2.2.2.2.1))).trans (hHeld.2.2.2.2.1)
                         have HS5_ := (hb.cell (World.block_lt_of_cell? _ _ (hHeld.2.2.2.2.2.1))).trans (hHeld.2.2.2.2.2.1)
                         have HS6_ := (hb.cell (World.block_lt_of_cell? _ _ (hHeld.2.2.2.2.2.2.1))).trans (hHeld.2.2.2.2.2.2.1)
                         have HS7_ := (hb.cell (World.block_lt_of_cell? _ _ (hHeld.2.2.2.2.2.2.2))).trans (hHeld.2.2.2.2.2.2.2)
                         clear hg_ hnew_
                         (first | rw [← Ny264.out] at ho68 | (simp only [Int.reduceToNat] at ho68; rw [← Ny264.out] at ho68))
                         have n0_ := am_ (Kd.R_elder' (R_ HO_0.out) (Kd.R_base ho68) hb)
                         have n1_ := am_ (Kd.R_elder' (R_ HO239.out) (Kd.R_base ho68) hb)
                         have n2_ := am_ (Kd.R_elder' (R_ HO256.out) (Kd.R_base ho68) hb)
                         have n3_ := am_ (Kd.R_elder' (R_ HO259.out) (Kd.R_base ho68) hb)
                         have n4_ := am_ (Kd.R_lower (Kd.R_new' (Kd.R_new' (Kd.R_new' (Kd.R_new' ho68 (Kd.R_lt (R_ HO_0.out))) (Kd.R_lt (R_ HO239.out))) (Kd.R_lt (R_ HO256.out))) (Kd.R_lt (R_ HO259.out))) (below_size (bel_ HB.out)))
                         have n5_ := am_ (Kd.C_below (by repeat (first | (with_reducible exact HR229.out) | (with_reducible refine Kd.C_alloc ?_ _) | (with_reducible refine Kd.C_drewN ?_ _) | (with_reducible refine Kd.C_drew ?_) | exact HR229.out)) hb)
                         have n6_ := am_ (Kd.C_below (by repeat (first | (with_reducible exact HR236.out) | (with_reducible refine Kd.C_alloc ?_ _) | (with_reducible refine Kd.C_drewN ?_ _) | (with_reducible refine Kd.C_drew ?_) | exact HR236.out)) hb)
                         have n7_ := am_ (Kd.C_below (by repeat (first | (with_reducible exact HR246.out) | (with_reducible refine Kd.C_alloc ?_ _) | (with_reducible refine Kd.C_drewN ?_ _) | (with_reducible refine Kd.C_drew ?_) | exact HR246.out)) hb)
                         have n8_ := am_ (Kd.C_below (by repeat (first | (with_reducible exact HR253.out) | (with_reducible refine Kd.C_alloc ?_ _) | (with_reducible refine Kd.C_drewN ?_ _) | (with_reducible refine Kd.C_drew ?_) | exact HR253.out)) hb)
                         have n9_ := am_ (below_step (bel_ HB.out) hb)
                         clear HO_0 HO239 HO256 HO259 HR229 HR236 HR246 HR253 HB
                         have HO_0 := n0_
                         have HO239 := n1_
                         have HO256 := n2_
                         have HO259 := n3_
                         have HO266 := n4_
                         have HR229 := n5_
                         have HR236 := n6_
                         have HR246 := n7_
                         have HR253 := n8_
                         have HB := n9_
                         clear n0_ n1_ n2_ n3_ n4_ n5_ n6_ n7_ n8_ n9_ hb ho68
                         refine hK.out _ _ ⟨HS0_, HS1_, HS2_, HS3_, HS4_, HS5_, HS6_, HS7_⟩ (fun hHeld => ?_)
                         clear hK K
                         refine norm_ (a' := ?_) ?_ ?_
                         rotate_left
                         ·show Act.put _ (some 54) _ = _
                          simp only [Act.put, sx_, s0_, s1_, i64_w, i32_w]
                          rfl
                         refine one_ (i := 2) (N := some 49) #[true, true, true, true, true, true, true, true, false, false] rfl rfl (one_of HT_.out kr_) (by decide) (fun K hK => ?_)
                         refine Kd.R_append_rows_step k27 (w0 := w) w.heap.size (by rfl) (.tmp 47) (.tmp 48) 22 27 (.agg #[(.int .i64 0), (.string ⟨#[]⟩), (.string ⟨#[]⟩), (.string ⟨#[]⟩), (.int .i64 0), (.string ⟨#[]⟩), (.bool false), (.int .i64 0)]) 96 rfl Tryd.underlying22 info27 rfl (by decide) (by omega) v258 y257 t217 _ _ _ (fun k_ => some k_ ≠ (.slice (some ad263) t217.length co49 : Value).ownBlock ∧ some k_ ≠ (v238 : Value).ownBlock ∧ some k_ ≠ (v255 : Value).ownBlock ∧ some k_ ≠ (v265 : Value).ownBlock) (fun _ => False) rfl rfl ?aO ?aR (fun _ _ h => h) (fun _ h => h.elim) ?aF ?aB ?aS ?aL ?_
                         (case aR => exact C_ (Kd.R_reads' HO_0.out).2.2)
                         (case aB => exact (bel_ HB.out))
                         (case aF => exact (fun k_ hk => ⟨Kd.fresh' (Kd.R_lt (R_ HO_0.out)) k_ hk, Kd.fresh' (Kd.R_lt (R_ HO239.out)) k_ hk, Kd.fresh' (Kd.R_lt (R_ HO256.out)) k_ hk, Kd.fresh' (Kd.R_lt (R_ HO266.out)) k_ hk⟩))
                         (case aO => exact (by (with_reducible repeat (first | apply Kd.R_alloc | apply Kd.R_drewN | apply Kd.R_drew)); exact Kd.R_mono HO259.out (fun _ hk => ⟨hk.1.1.1.2, ⟨hk.1.1.2, ⟨hk.1.2, hk.2⟩⟩⟩)))
                         (case aS => exact (below_size (bel_ HB.out)))
                         (case aL => have := LMc32.out; omega)
                         intro v261 w69 ho hb hg hat
                         have HS0_ := cell_grown hg (hHeld.1) (by first | (rw [add_block]; exact (fun e_ => (((R_ HO259.out).1 _ e_.symm).1.1.1.2) rfl)) | (show some (Addr.add _ _).block ≠ _; rw [add_block]; exact (fun e_ => (((R_ HO259.out).1 _ e_.symm).1.1.1.2) rfl)) | exact (fun e_ => (((R_ HO259.out).1 _ e_.symm).1.1.1.2) rfl))
                         have HS1_ := cell_grown hg (hHeld.2.1) (by first | (rw [add_block]; exact (fun e_ => (((R_ HO259.out).1 _ e_.symm).1.1.1.2) rfl)) | (show some (Addr.add _ _).block ≠ _; rw [add_block]; exact (fun e_ => (((R_ HO259.out).1 _ e_.symm).1.1.1.2) rfl)) | exact (fun e_ => (((R_ HO259.out).1 _ e_.symm).1.1.1.2) rfl))
                         have HS2_ := cell_grown hg (hHeld.2.2.1) (by first | (rw [add_block]; exact (fun e_ => (((R_ HO259.out).1 _ e_.symm).1.1.1.2) rfl)) | (show some (Addr.add _ _).block ≠ _; rw [add_block]; exact (fun e_ => (((R_ HO259.out).1 _ e_.symm).1.1.1.2) rfl)) | exact (fun e_ => (((R_ HO259.out).1 _ e_.symm).1.1.1.2) rfl))
                         have HS3_ := cell_grown hg (hHeld.2.2.2.1) (by first | (rw [add_block]; exact (fun e_ => (((R_ HO259.out).1 _ e_.symm).1.1.1.2) rfl)) | (show some (Addr.add _ _).block ≠ _; rw [add_block]; exact (fun e_ => (((R_ HO259.out).1 _ e_.symm).1.1.1.2) rfl)) | exact (fun e_ => (((R_ HO259.out).1 _ e_.symm).1.1.1.2) rfl))
                         have HS4_ := cell_grown hg (hHeld.2.2.2.2.1) (by first | (rw [add_block]; exact (fun e_ => (((R_ HO259.out).1 _ e_.symm).1.1.1.2) rfl)) | (show some (Addr.add _ _).block ≠ _; rw [add_block]; exact (fun e_ => (((R_ HO259.out).1 _ e_.symm).1.1.1.2) rfl)) | exact (fun e_ => (((R_ HO259.out).1 _ e_.symm).1.1.1.2) rfl))
                         have HS5_ := cell_grown hg (hHeld.2.2.2.2.2.1) (by first | (rw [add_block]; exact (fun e_ => (((R_ HO259.out).1 _ e_.symm).1.1.1.2) rfl)) | (show some (Addr.add _ _).block ≠ _; rw [add_block]; exact (fun e_ => (((R_ HO259.out).1 _ e_.symm).1.1.1.2) rfl)) | exact (fun e_ => (((R_ HO259.out).1 _ e_.symm).1.1.1.2) rfl))
                         have HS6_ := cell_grown hg (hHeld.2.2.2.2.2.2.1) (by first | (rw [add_block]; exact (fun e_ => (((R_ HO259.out).1 _ e_.symm).1.1.1.2) rfl)) | (show some (Addr.add _ _).block ≠ _; rw [add_block]; exact (fun e_ => (((R_ HO259.out).1 _ e_.symm).1.1.1.2) rfl)) | exact (fun e_ => (((R_ HO259.out).1 _ e_.symm).1.1.1.2) rfl))
                         have HS7_ := cell_grown hg (hHeld.2.2.2.2.2.2.2) (by first | (rw [add_block]; exact (fun e_ => (((R_ HO259.out).1 _ e_.symm).1.1.1.2) rfl)) | (show some (Addr.add _ _).block ≠ _; rw [add_block]; exact (fun e_ => (((R_ HO259.out).1 _ e_.symm).1.1.1.2) rfl)) | exact (fun e_ => (((R_ HO259.out).1 _ e_.symm).1.1.1.2) rfl))
                         rw [← Ny260.out] at ho
                         have n0_ := am_ (Kd.R_after (ok := (fun k_ => some k_ ≠ (v238 : Value).ownBlock ∧ some k_ ≠ (v255 : Value).ownBlock ∧ some k_ ≠ (v265 : Value).ownBlock)) (by (with_reducible repeat (first | apply Kd.R_alloc | apply Kd.R_drewN | apply Kd.R_drew)); exact Kd.R_mono HO_0.out (fun _ hk => ⟨⟨hk.1.1.1, ⟨hk.1.1.2, hk.2⟩⟩, hk.1.2⟩)) hg hat)
                         have n1_ := am_ (Kd.R_after (ok := (fun k_ => some k_ ≠ (.slice (some ad263) t217.length co49 : Value).ownBlock ∧ some k_ ≠ (v255 : Value).ownBlock ∧ some k_ ≠ (v265 : Value).ownBlock)) (by (with_reducible repeat (first | apply Kd.R_alloc | apply Kd.R_drewN | apply Kd.R_drew)); exact Kd.R_mono HO239.out (fun _ hk => ⟨⟨hk.1.1.1, ⟨hk.1.1.2, hk.2⟩⟩, hk.1.2⟩)) hg hat)
                         have n2_ := am_ (Kd.R_after (ok := (fun k_ => some k_ ≠ (.slice (some ad263) t217.length co49 : Value).ownBlock ∧ some k_ ≠ (v238 : Value).ownBlock ∧ some k_ ≠ (v265 : Value).ownBlock)) (by (with_reducible repeat (first | apply Kd.R_alloc | apply Kd.R_drewN | apply Kd.R_drew)); exact Kd.R_mono HO256.out (fun _ hk => ⟨⟨hk.1.1.1, ⟨hk.1.1.2, hk.2⟩⟩, hk.1.2⟩)) hg hat)
                         have n3_ := am_ (Kd.R_after (ok := (fun k_ => some k_ ≠ (.slice (some ad263) t217.length co49 : Value).ownBlock ∧ some k_ ≠ (v238 : Value).ownBlock ∧ some k_ ≠ (v255 : Value).ownBlock)) (by (with_reducible repeat (first | apply Kd.R_alloc | apply Kd.R_drewN | apply Kd.R_drew)); exact Kd.R_mono HO266.out (fun _ hk => ⟨⟨hk.1.1.1.2, ⟨hk.1.1.2, hk.1.2⟩⟩, hk.2⟩)) hg hat)
                         have n4_ := am_ (hb)
                         have n5_ := am_ ((show Kd.C k27 w69 A51 y226.length y226 from by rw [Ny226.out, KA51.out]; exact Kd.C_drop (m := ((ji18) : Int).toNat) (c := co49) ((Kd.R_reads' (Kd.R_after (ok := (fun k_ => some k_ ≠ (v238 : Value).ownBlock ∧ some k_ ≠ (v255 : Value).ownBlock ∧ some k_ ≠ (v265 : Value).ownBlock)) (by (with_reducible repeat (first | apply Kd.R_alloc | apply Kd.R_drewN | apply Kd.R_drew)); exact Kd.R_mono HO_0.out (fun _ hk => ⟨⟨hk.1.1.1, ⟨hk.1.1.2, hk.2⟩⟩, hk.1.2⟩)) hg hat)).2.2) KL51.out ((Kd.R_reads' (Kd.R_after (ok := (fun k_ => some k_ ≠ (v238 : Value).ownBlock ∧ some k_ ≠ (v255 : Value).ownBlock ∧ some k_ ≠ (v265 : Value).ownBlock)) (by (with_reducible repeat (first | apply Kd.R_alloc | apply Kd.R_drewN | apply Kd.R_drew)); exact Kd.R_mono HO_0.out (fun _ hk => ⟨⟨hk.1.1.1, ⟨hk.1.1.2, hk.2⟩⟩, hk.1.2⟩)) hg hat)).2.1)))
                         have n6_ := am_ ((show Kd.C k27 w69 (some ad263) y233.length y233 from by rw [Ny233.out]; exact Kd.C_take (m := ((ji18) : Int).toNat) ((Kd.R_reads' (Kd.R_after (ok := (fun k_ => some k_ ≠ (v238 : Value).ownBlock ∧ some k_ ≠ (v255 : Value).ownBlock ∧ some k_ ≠ (v265 : Value).ownBlock)) (by (with_reducible repeat (first | apply Kd.R_alloc | apply Kd.R_drewN | apply Kd.R_drew)); exact Kd.R_mono HO_0.out (fun _ hk => ⟨⟨hk.1.1.1, ⟨hk.1.1.2, hk.2⟩⟩, hk.1.2⟩)) hg hat)).2.2) KL52.out))
                         have n7_ := am_ ((show Kd.C k27 w69 (some ad263) y243.length y243 from by rw [Ny243.out]; exact Kd.C_take (m := ((ji18) : Int).toNat) ((Kd.R_reads' (Kd.R_after (ok := (fun k_ => some k_ ≠ (v238 : Value).ownBlock ∧ some k_ ≠ (v255 : Value).ownBlock ∧ some k_ ≠ (v265 : Value).ownBlock)) (by (with_reducible repeat (first | apply Kd.R_alloc | apply Kd.R_drewN | apply Kd.R_drew)); exact Kd.R_mono HO_0.out (fun _ hk => ⟨⟨hk.1.1.1, ⟨hk.1.1.2, hk.2⟩⟩, hk.1.2⟩)) hg hat)).2.2) KL58.out))
                         have n8_ := am_ ((show Kd.C k27 w69 A59 y250.length y250 from by rw [Ny250.out, KA59.out]; exact Kd.C_drop (m := ((ji28) : Int).toNat) (c := co49) ((Kd.R_reads' (Kd.R_after (ok := (fun k_ => some k_ ≠ (v238 : Value).ownBlock ∧ some k_ ≠ (v255 : Value).ownBlock ∧ some k_ ≠ (v265 : Value).ownBlock)) (by (with_reducible repeat (first | apply Kd.R_alloc | apply Kd.R_drewN | apply Kd.R_drew)); exact Kd.R_mono HO_0.out (fun _ hk => ⟨⟨hk.1.1.1, ⟨hk.1.1.2, hk.2⟩⟩, hk.1.2⟩)) hg hat)).2.2) KL59.out ((Kd.R_reads' (Kd.R_after (ok := (fun k_ => some k_ ≠ (v238 : Value).ownBlock ∧ some k_ ≠ (v255 : Value).ownBlock ∧ some k_ ≠ (v265 : Value).ownBlock)) (by (with_reducible repeat (first | apply Kd.R_alloc | apply Kd.R_drewN | apply Kd.R_drew)); exact Kd.R_mono HO_0.out (fun _ hk => ⟨⟨hk.1.1.1, ⟨hk.1.1.2, hk.2⟩⟩, hk.1.2⟩)) hg hat)).2.1)))
                         have n9_ := am_ (ho)
                         clear HO_0 HO239 HO256 HO266 HB HR229 HR236 HR246 HR253 HO259
                         have HO_0 := n0_
                         have HO239 := n1_
                         have HO256 := n2_
                         have HO266 := n3_
                         have HB := n4_
                         have HR229 := n5_
                         have HR236 := n6_
                         have HR246 := n7_
                         have HR253 := n8_
                         have HO262 := n9_
                         clear n0_ n1_ n2_ n3_ n4_ n5_ n6_ n7_ n8_ n9_ ho hb hg hat
                         refine hK.out _ _ ⟨HS0_, HS1_, HS2_, HS3_, HS4_, HS5_, HS6_, HS7_⟩ (fun hHeld => ?_)
                         clear hK K
                         refine norm_ (a' := ?_) ?_ ?_
                         rotate_left
                         ·show Act.put _ (some 49) _ = _
                          simp only [Act.put, sx_, s0_, s1_, i64_w, i32_w]
                          rfl
                         exact norm_ (by simp only [putAll, Act.put, List.setIfInBounds_toArray, List.set_cons_zero, List.set_cons_succ]) (hCont (v258, v261, v265) _ ⟨hHeld, (by (with_reducible repeat (first | apply Kd.R_alloc | apply Kd.R_drewN | apply Kd.R_drew)); exact Kd.R_mono HO239.out (fun _ hk => ⟨hk.1.2.1, ⟨hk.2, ⟨hk.1.2.2, hk.1.1⟩⟩⟩)), (by (with_reducible repeat (first | apply Kd.R_alloc | apply Kd.R_drewN | apply Kd.R_drew)); exact Kd.R_mono HO256.out (fun _ hk => ⟨hk.1.2.1, ⟨hk.2, ⟨hk.1.2.2, hk.1.1⟩⟩⟩)), (by (with_reducible repeat (first | apply Kd.R_alloc | apply Kd.R_drewN | apply Kd.R_drew)); exact Kd.R_mono HO262.out (fun _ hk => ⟨hk.2.1, ⟨hk.2.2.1, ⟨hk.2.2.2, hk.1⟩⟩⟩)), (by (with_reducible repeat (first | apply Kd.R_alloc | apply Kd.R_drewN | apply Kd.R_drew)); exact Kd.R_mono HO266.out (fun _ hk => ⟨hk.1.2.1, ⟨hk.1.2.2, ⟨hk.2, hk.1.1⟩⟩⟩)), (by (with_reducible repeat (first | apply Kd.R_alloc | apply Kd.R_drewN | apply Kd.R_drew)); exact Kd.R_mono HO_0.out (fun _ hk => ⟨hk.1.1, ⟨hk.1.2.1, ⟨hk.2, hk.1.2.2⟩⟩⟩)), (bel_ HB.out)⟩)
                       ·skip
                        refine Kd.R_lit_step k27 _ 27 ?hg (N := 54) ?hd (xs := ([(⟨(rd_T27 t217 (ji18)).f0, (rd_T27 t217 (ji18)).f1, (rd_T27 t217 (ji18)).f2, (rd_T27 t217 (ji18)).f3, (rd_T27 t217 (ji18)).f4, (rd_T27 t217 (ji18)).f5, (rd_T27 t217 (ji18)).f6, (rd_T27 t217 (ji18)).f7⟩ : S27)] : List (S27))) (inner := [.int .i64 ((rd_T27 t217 (ji18)).f0), .string ((rd_T27 t217 (ji18)).f1), .string ((rd_T27 t217 (ji18)).f2), .string ((rd_T27 t217 (ji18)).f3), .int .i64 ((rd_T27 t217 (ji18)).f4), .string ((rd_T27 t217 (ji18)).f5), .bool ((rd_T27 t217 (ji18)).f6), .int .i64 ((rd_T27 t217 (ji18)).f7)]) (ok := fun _ => True) (okp := fun _ => True) ?hr ?hp (fun _ hk => hk) trivial (Below.refl _ _) (Nat.le_refl _) (by simp) ?_; (case hd => rfl); (case hg => rfl); (case hr => first | (go_simp; done) | (go_simp; rfl)); (case hp => exact (Reps.c8 (show Kd.M k27 _ _ _ (⟨(rd_T27 t217 (ji18)).f0, (rd_T27 t217 (ji18)).f1, (rd_T27 t217 (ji18)).f2, (rd_T27 t217 (ji18)).f3, (rd_T27 t217 (ji18)).f4, (rd_T27 t217 (ji18)).f5, (rd_T27 t217 (ji18)).f6, (rd_T27 t217 (ji18)).f7⟩ : S27) [.int .i64 ((rd_T27 t217 (ji18)).f0), .string ((rd_T27 t217 (ji18)).f1), .string ((rd_T27 t217 (ji18)).f2), .string ((rd_T27 t217 (ji18)).f3), .int .i64 ((rd_T27 t217 (ji18)).f4), .string ((rd_T27 t217 (ji18)).f5), .bool ((rd_T27 t217 (ji18)).f6), .int .i64 ((rd_T27 t217 (ji18)).f7)] from (k27_mkM _ _ _ (⟨(rd_T27 t217 (ji18)).f0, (rd_T27 t217 (ji18)).f1, (rd_T27 t217 (ji18)).f2, (rd_T27 t217 (ji18)).f3, (rd_T27 t217 (ji18)).f4, (rd_T27 t217 (ji18)).f5, (rd_T27 t217 (ji18)).f6, (rd_T27 t217 (ji18)).f7⟩ : S27) )) (Reps.none _ _)))
                        intro v265 w65 ho66 hb hg_ hnew_
                        have HS0_ := (hb.cell (World.block_lt_of_cell? _ _ (hHeld.1))).trans (hHeld.1)
                        have HS1_ := (hb.cell (World.block_lt_of_cell? _ _ (hHeld.2.1))).trans (hHeld.2.1)
                        have HS2_ := (hb.cell (World.block_lt_of_cell? _ _ (hHeld.2.2.1))).trans (hHeld.2.2.1)
                        have HS3_ := (hb.cell (World.block_lt_of_cell? _ _ (hHeld.2.2.2.1))).trans (hHeld.2.2.2.1)
                        have HS4_ := (hb.cell (World.block_lt_of_cell? _ _ (hHeld.2.2.2.2.1))).trans (hHeld.2.2.2.2.1)
                        have HS5_ := (hb.cell (World.block_lt_of_cell? _ _ (hHeld.2.2.2.2.2.1))).trans (hHeld.2.2.2.2.2.1)
                        have HS6_ := (hb.cell (World.block_lt_of_cell? _ _ (hHeld.2.2.2.2.2.2.1))).trans (hHeld.2.2.2.2.2.2.1)
                        have HS7_ := (hb.cell (World.block_lt_of_cell? _ _ (hHeld.2.2.2.2.2.2.2))).trans (hHeld.2.2.2.2.2.2.2)
                        clear hg_ hnew_
                        (first | rw [← Ny264.out] at ho66 | (simp only [Int.reduceToNat] at ho66; rw [← Ny264.out] at ho66))
                        have n0_ := am_ (Kd.R_elder' (R_ HO_0.out) (Kd.R_base ho66) hb)
                        have n1_ := am_ (Kd.R_elder' (R_ HO239.out) (Kd.R_base ho66) hb)
                        have n2_ := am_ (Kd.R_elder' (R_ HO256.out) (Kd.R_base ho66) hb)
                        have n3_ := am_ (Kd.R_lower (Kd.R_new' (Kd.R_new' (Kd.R_new' ho66 (Kd.R_lt (R_ HO_0.out))) (Kd.R_lt (R_ HO239.out))) (Kd.R_lt (R_ HO256.out))) (below_size (bel_ HB.out)))
                        have n4_ := am_ (Kd.C_below (by repeat (first | (with_reducible exact HR229.out) | (with_reducible refine Kd.C_alloc ?_ _) | (with_reducible refine Kd.C_drewN ?_ _) | (with_reducible refine Kd.C_drew ?_) | exact HR229.out)) hb)
                        have n5_ := am_ (Kd.C_below (by repeat (first | (with_reducible exact HR236.out) | (with_reducible refine Kd.C_alloc ?_ _) | (with_reducible refine Kd.C_drewN ?_ _) | (with_reducible refine Kd.C_drew ?_) | exact HR236.out)) hb)
                        have n6_ := am_ (Kd.C_below (by repeat (first | (with_reducible exact HR246.out) | (with_reducible refine Kd.C_alloc ?_ _) | (with_reducible refine Kd.C_drewN ?_ _) | (with_reducible refine Kd.C_drew ?_) | exact HR246.out)) hb)
                        have n7_ := am_ (Kd.C_below (by repeat (first | (with_reducible exact HR253.out) | (with_reducible refine Kd.C_alloc ?_ _) | (with_reducible refine Kd.C_drewN ?_ _) | (with_reducible refine Kd.C_drew ?_) | exact HR253.out)) hb)
                        have n8_ := am_ (below_step (bel_ HB.out) hb)
                        clear HO_0 HO239 HO256 HR229 HR236 HR246 HR253 HB
                        have HO_0 := n0_
                        have HO239 := n1_
                        have HO256 := n2_
                        have HO266 := n3_
                        have HR229 := n4_
                        have HR236 := n5_
                        have HR246 := n6_
                        have HR253 := n7_
                        have HB := n8_
                        clear n0_ n1_ n2_ n3_ n4_ n5_ n6_ n7_ n8_ hb ho66
                        refine hK.out _ _ ⟨HS0_, HS1_, HS2_, HS3_, HS4_, HS5_, HS6_, HS7_⟩ (fun hHeld => ?_)
                        clear hK K
                        refine norm_ (a' := ?_) ?_ ?_
                        rotate_left
                        ·show Act.put _ (some 54) _ = _
                         simp only [Act.put, sx_, s0_, s1_, i64_w, i32_w]
                         rfl
                        refine one_ (i := 0) (N := some 47) #[true, true, false, true, true, true, true, true, false, false] rfl rfl (one_of HT_.out kr_) (by decide) (fun K hK => ?_)
                        refine Kd.R_lit_step k27 _ 27 ?hg (N := 47) ?hd (xs := ([] : List (S27))) (inner := []) (ok := fun _ => True) (okp := fun _ => True) ?hr ?hp (fun _ hk => hk) trivial (Below.refl _ _) (Nat.le_refl _) (by simp) ?_; (case hd => rfl); (case hg => rfl); (case hr => first | (go_simp; done) | (go_simp; rfl)); (case hp => exact (Reps.none _ _))
                        intro v258 w67 ho68 hb hg_ hnew_
                        have HS0_ := (hb.cell (World.block_lt_of_cell? _ _ (hHeld.1))).trans (hHeld.1)
                        have HS1_ := (hb.cell (World.block_lt_of_cell? _ _ (hHeld.2.1))).trans (hHeld.2.1)
                        have HS2_ := (hb.cell (World.block_lt_of_cell? _ _ (hHeld.2.2.1))).trans (hHeld.2.2.1)
                        have HS3_ := (hb.cell (World.block_lt_of_cell? _ _ (hHeld.2.2.2.1))).trans (hHeld.2.2.2.1)
                        have HS4_ := (hb.cell (World.block_lt_of_cell? _ _ (hHeld.2.2.2.2.1))).trans (hHeld.2.2.2.2.1)
                        have HS5_ := (hb.cell (World.block_lt_of_cell? _ _ (hHeld.2.2.2.2.2.1))).trans (hHeld.2.2.2.2.2.1)
                        have HS6_ := (hb.cell (World.block_lt_of_cell? _ _ (hHeld.2.2.2.2.2.2.1))).trans (hHeld.2.2.2.2.2.2.1)
                        have HS7_ := (hb.cell (World.block_lt_of_cell? _ _ (hHeld.2.2.2.2.2.2.2))).trans (hHeld.2.2.2.2.2.2.2)
                        clear hg_ hnew_
                        (first | rw [← Ny257.out] at ho68 | (simp only [Int.reduceToNat] at ho68; rw [← Ny257.out] at ho68))
                        have n0_ := am_ (Kd.R_elder' (R_ HO_0.out) (Kd.R_base ho68) hb)
                        have n1_ := am_ (Kd.R_elder' (R_ HO239.out) (Kd.R_base ho68) hb)
                        have n2_ := am_ (Kd.R_elder' (R_ HO256.out) (Kd.R_base ho68) hb)
                        have n3_ := am_ (Kd.R_elder' (R_ HO266.out) (Kd.R_base ho68) hb)
                        have n4_ := am_ (Kd.R_lower (Kd.R_new' (Kd.R_new' (Kd.R_new' (Kd.R_new' ho68 (Kd.R_lt (R_ HO_0.out))) (Kd.R_lt (R_ HO239.out))) (Kd.R_lt (R_ HO256.out))) (Kd.R_lt (R_ HO266.out))) (below_size (bel_ HB.out)))
                        have n5_ := am_ (Kd.C_below (by repeat (first | (with_reducible exact HR229.out) | (with_reducible refine Kd.C_alloc ?_ _) | (with_reducible refine Kd.C_drewN ?_ _) | (with_reducible refine Kd.C_drew ?_) | exact HR229.out)) hb)
                        have n6_ := am_ (Kd.C_below (by repeat (first | (with_reducible exact HR236.out) | (with_reducible refine Kd.C_alloc ?_ _) | (with_reducible refine Kd.C_drewN ?_ _) | (with_reducible refine Kd.C_drew ?_) | exact HR236.out)) hb)
                        have n7_ := am_ (Kd.C_below (by repeat (first | (with_reducible exact HR246.out) | (with_reducible refine Kd.C_alloc ?_ _) | (with_reducible refine Kd.C_drewN ?_ _) | (with_reducible refine Kd.C_drew ?_) | exact HR246.out)) hb)
                        have n8_ := am_ (Kd.C_below (by repeat (first | (with_reducible exact HR253.out) | (with_reducible refine Kd.C_alloc ?_ _) | (with_reducible refine Kd.C_drewN ?_ _) | (with_reducible refine Kd.C_drew ?_) | exact HR253.out)) hb)
                        have n9_ := am_ (below_step (bel_ HB.out) hb)
                        clear HO_0 HO239 HO256 HO266 HR229 HR236 HR246 HR253 HB
                        have HO_0 := n0_
                        have HO239 := n1_
                        have HO256 := n2_
                        have HO266 := n3_
                        have HO259 := n4_
                        have HR229 := n5_
                        have HR236 := n6_
                        have HR246 := n7_
                        have HR253 := n8_
                        have HB := n9_
                        clear n0_ n1_ n2_ n3_ n4_ n5_ n6_ n7_ n8_ n9_ hb ho68
                        refine hK.out _ _ ⟨HS0_, HS1_, HS2_, HS3_, HS4_, HS5_, HS6_, HS7_⟩ (fun hHeld => ?_)
                        clear hK K
                        refine norm_ (a' := ?_) ?_ ?_
                        rotate_left
                        ·show Act.put _ (some 47) _ = _
                         simp only [Act.put, sx_, s0_, s1_, i64_w, i32_w]
                         rfl
                        refine one_ (i := 2) (N := some 49) #[true, true, true, true, true, true, true, true, false, false] rfl rfl (one_of HT_.out kr_) (by decide) (fun K hK => ?_)
                        refine Kd.R_append_rows_step k27 (w0 := w) w.heap.size (by rfl) (.tmp 47) (.tmp 48) 22 27 (.agg #[(.int .i64 0), (.string ⟨#[]⟩), (.string ⟨#[]⟩), (.string ⟨#[]⟩), (.int .i64 0), (.string ⟨#[]⟩), (.bool false), (.int .i64 0)]) 96 rfl Tryd.underlying22 info27 rfl (by decide) (by omega) v258 y257 t217 _ _ _ (fun k_ => some k_ ≠ (.slice (some ad263) t217.length co49 : Value).ownBlock ∧ some k_ ≠ (v238 : Value).ownBlock ∧ some k_ ≠ (v255 : Value).ownBlock ∧ some k_ ≠ (v265 : Value).ownBlock) (fun _ => False) rfl rfl ?aO ?aR (fun _ _ h => h) (fun _ h => h.elim) ?aF ?aB ?aS ?aL ?_
                        (case aR => exact C_ (Kd.R_reads' HO_0.out).2.2)
                        (case aB => exact (bel_ HB.out))
                        (case aF => exact (fun k_ hk => ⟨Kd.fresh' (Kd.R_lt (R_ HO_0.out)) k_ hk, Kd.fresh' (Kd.R_lt (R_ HO239.out)) k_ hk, Kd.fresh' (Kd.R_lt (R_ HO256.out)) k_ hk, Kd.fresh' (Kd.R_lt (R_ HO266.out)) k_ hk⟩))
                        (case aO => exact (by (with_reducible repeat (first | apply Kd.R_alloc | apply Kd.R_drewN | apply Kd.R_drew)); exact Kd.R_mono HO259.out (fun _ hk => ⟨hk.1.1.1.2, ⟨hk.1.1.2, ⟨hk.1.2, hk.2⟩⟩⟩)))
                        (case aS => exact (below_size (bel_ HB.out)))
                        (case aL => have := LMc32.out; omega)
                        intro v261 w69 ho hb hg hat
                        have HS0_ := cell_grown hg (hHeld.1) (by first | (rw [add_block]; exact (fun e_ => (((R_ HO259.out).1 _ e_.symm).1.1.1.2) rfl)) | (show some (Addr.add _ _).block ≠ _; rw [add_block]; exact (fun e_ => (((R_ HO259.out).1 _ e_.symm).1.1.1.2) rfl)) | exact (fun e_ => (((R_ HO259.out).1 _ e_.symm).1.1.1.2) rfl))
                        have HS1_ := cell_grown hg (hHeld.2.1) (by first | (rw [add_block]; exact (fun e_ => (((R_ HO259.out).1 _ e_.symm).1.1.1.2) rfl)) | (show some (Addr.add _ _).block ≠ _; rw [add_block]; exact (fun e_ => (((R_ HO259.out).1 _ e_.symm).1.1.1.2) rfl)) | exact (fun e_ => (((R_ HO259.out).1 _ e_.symm).1.1.1.2) rfl))
                        have HS2_ := cell_grown hg (hHeld.2.2.1) (by first | (rw [add_block]; exact (fun e_ => (((R_ HO259.out).1 _ e_.symm).1.1.1.2) rfl)) | (show some (Addr.add _ _).block ≠ _; rw [add_block]; exact (fun e_ => (((R_ HO259.out).1 _ e_.symm).1.1.1.2) rfl)) | exact (fun e_ => (((R_ HO259.out).1 _ e_.symm).1.1.1.2) rfl))
                        have HS3_ := cell_grown hg (hHeld.2.2.2.1) (by first | (rw [add_block]; exact (fun e_ => (((R_ HO259.out).1 _ e_.symm).1.1.1.2) rfl)) | (show some (Addr.add _ _).block ≠ _; rw [add_block]; exact (fun e_ => (((R_ HO259.out).1 _ e_.symm).1.1.1.2) rfl)) | exact (fun e_ => (((R_ HO259.out).1 _ e_.symm).1.1.1.2) rfl))
                        have HS4_ := cell_grown hg (hHeld.2.2.2.2.1) (by first | (rw [add_block]; exact (fun e_ => (((R_ HO259.out).1 _ e_.symm).1.1.1.2) rfl)) | (show some (Addr.add _ _).block ≠ _; rw [add_block]; exact (fun e_ => (((R_ HO259.out).1 _ e_.symm).1.1.1.2) rfl)) | exact (fun e_ => (((R_ HO259.out).1 _ e_.symm).1.1.1.2) rfl))
                        have HS5_ := cell_grown hg (hHeld.2.2.2.2.2.1) (by first | (rw [add_block]; exact (fun e_ => (((R_ HO259.out).1 _ e_.symm).1.1.1.2) rfl)) | (show some (Addr.add _ _).block ≠ _; rw [add_block]; exact (fun e_ => (((R_ HO259.out).1 _ e_.symm).1.1.1.2) rfl)) | exact (fun e_ => (((R_ HO259.out).1 _ e_.symm).1.1.1.2) rfl))
                        have HS6_ := cell_grown hg (hHeld.2.2.2.2.2.2.1) (by first | (rw [add_block]; exact (fun e_ => (((R_ HO259.out).1 _ e_.symm).1.1.1.2) rfl)) | (show some (Addr.add _ _).block ≠ _; rw [add_block]; exact (fun e_ => (((R_ HO259.out).1 _ e_.symm).1.1.1.2) rfl)) | exact (fun e_ => (((R_ HO259.out).1 _ e_.symm).1.1.1.2) rfl))
                        have HS7_ := cell_grown hg (hHeld.2.2.2.2.2.2.2) (by first | (rw [add_block]; exact (fun e_ => (((R_ HO259.out).1 _ e_.symm).1.1.1.2) rfl)) | (show some (Addr.add _ _).block ≠ _; rw [add_block]; exact (fun e_ => (((R_ HO259.out).1 _ e_.symm).1.1.1.2) rfl)) | exact (fun e_ => (((R_ HO259.out).1 _ e_.symm).1.1.1.2) rfl))
                        rw [← Ny260.out] at ho
                        have n0_ := am_ (Kd.R_after (ok := (fun k_ => some k_ ≠ (v238 : Value).ownBlock ∧ some k_ ≠ (v255 : Value).ownBlock ∧ some k_ ≠ (v265 : Value).ownBlock)) (by (with_reducible repeat (first | apply Kd.R_alloc | apply Kd.R_drewN | apply Kd.R_drew)); exact Kd.R_mono HO_0.out (fun _ hk => ⟨⟨hk.1.1.1, ⟨hk.1.1.2, hk.1.2⟩⟩, hk.2⟩)) hg hat)
                        have n1_ := am_ (Kd.R_after (ok := (fun k_ => some k_ ≠ (.slice (some ad263) t217.length co49 : Value).ownBlock ∧ some k_ ≠ (v255 : Value).ownBlock ∧ some k_ ≠ (v265 : Value).ownBlock)) (by (with_reducible repeat (first | apply Kd.R_alloc | apply Kd.R_drewN | apply Kd.R_drew)); exact Kd.R_mono HO239.out (fun _ hk => ⟨⟨hk.1.1.1, ⟨hk.1.1.2, hk.1.2⟩⟩, hk.2⟩)) hg hat)
                        have n2_ := am_ (Kd.R_after (ok := (fun k_ => some k_ ≠ (.slice (some ad263) t217.length co49 : Value).ownBlock ∧ some k_ ≠ (v238 : Value).ownBlock ∧ some k_ ≠ (v265 : Value).ownBlock)) (by (with_reducible repeat (first | apply Kd.R_alloc | apply Kd.R_drewN | apply Kd.R_drew)); exact Kd.R_mono HO256.out (fun _ hk => ⟨⟨hk.1.1.1, ⟨hk.1.1.2, hk.1.2⟩⟩, hk.2⟩)) hg hat)
                        have n3_ := am_ (Kd.R_after (ok := (fun k_ => some k_ ≠ (.slice (some ad263) t217.length co49 : Value).ownBlock ∧ some k_ ≠ (v238 : Value).ownBlock ∧ some k_ ≠ (v255 : Value).ownBlock)) (by (with_reducible repeat (first | apply Kd.R_alloc | apply Kd.R_drewN | apply Kd.R_drew)); exact Kd.R_mono HO266.out (fun _ hk => ⟨⟨hk.1.1.1.2, ⟨hk.1.1.2, hk.1.2⟩⟩, hk.2⟩)) hg hat)
                        have n4_ := am_ (hb)
                        have n5_ := am_ ((show Kd.C k27 w69 A51 y226.length y226 from by rw [Ny226.out, KA51.out]; exact Kd.C_drop (m := ((ji18) : Int).toNat) (c := co49) ((Kd.R_reads' (Kd.R_after (ok := (fun k_ => some k_ ≠ (v238 : Value).ownBlock ∧ some k_ ≠ (v255 : Value).ownBlock ∧ some k_ ≠ (v265 : Value).ownBlock)) (by (with_reducible repeat (first | apply Kd.R_alloc | apply Kd.R_drewN | apply Kd.R_drew)); exact Kd.R_mono HO_0.out (fun _ hk => ⟨⟨hk.1.1.1, ⟨hk.1.1.2, hk.1.2⟩⟩, hk.2⟩)) hg hat)).2.2) KL51.out ((Kd.R_reads' (Kd.R_after (ok := (fun k_ => some k_ ≠ (v238 : Value).ownBlock ∧ some k_ ≠ (v255 : Value).ownBlock ∧ some k_ ≠ (v265 : Value).ownBlock)) (by (with_reducible repeat (first | apply Kd.R_alloc | apply Kd.R_drewN | apply Kd.R_drew)); exact Kd.R_mono HO_0.out (fun _ hk => ⟨⟨hk.1.1.1, ⟨hk.1.1.2, hk.1.2⟩⟩, hk.2⟩)) hg hat)).2.1)))
                        have n6_ := am_ ((show Kd.C k27 w69 (some ad263) y233.length y233 from by rw [Ny233.out]; exact Kd.C_take (m := ((ji18) : Int).toNat) ((Kd.R_reads' (Kd.R_after (ok := (fun k_ => some k_ ≠ (v238 : Value).ownBlock ∧ some k_ ≠ (v255 : Value).ownBlock ∧ some k_ ≠ (v265 : Value).ownBlock)) (by (with_reducible repeat (first | apply Kd.R_alloc | apply Kd.R_drewN | apply Kd.R_drew)); exact Kd.R_mono HO_0.out (fun _ hk => ⟨⟨hk.1.1.1, ⟨hk.1.1.2, hk.1.2⟩⟩, hk.2⟩)) hg hat)).2.2) KL52.out))
                        have n7_ := am_ ((show Kd.C k27 w69 (some ad263) y243.length y243 from by rw [Ny243.out]; exact Kd.C_take (m := ((ji18) : Int).toNat) ((Kd.R_reads' (Kd.R_after (ok := (fun k_ => some k_ ≠ (v238 : Value).ownBlock ∧ some k_ ≠ (v255 : Value).ownBlock ∧ some k_ ≠ (v265 : Value).ownBlock)) (by (with_reducible repeat (first | apply Kd.R_alloc | apply Kd.R_drewN | apply Kd.R_drew)); exact Kd.R_mono HO_0.out (fun _ hk => ⟨⟨hk.1.1.1, ⟨hk.1.1.2, hk.1.2⟩⟩, hk.2⟩)) hg hat)).2.2) KL58.out))
                        have n8_ := am_ ((show Kd.C k27 w69 A59 y250.length y250 from by rw [Ny250.out, KA59.out]; exact Kd.C_drop (m := ((ji28) : Int).toNat) (c := co49) ((Kd.R_reads' (Kd.R_after (ok := (fun k_ => some k_ ≠ (v238 : Value).ownBlock ∧ some k_ ≠ (v255 : Value).ownBlock ∧ some k_ ≠ (v265 : Value).ownBlock)) (by (with_reducible repeat (first | apply Kd.R_alloc | apply Kd.R_drewN | apply Kd.R_drew)); exact Kd.R_mono HO_0.out (fun _ hk => ⟨⟨hk.1.1.1, ⟨hk.1.1.2, hk.1.2⟩⟩, hk.2⟩)) hg hat)).2.2) KL59.out ((Kd.R_reads' (Kd.R_after (ok := (fun k_ => some k_ ≠ (v238 : Value).ownBlock ∧ some k_ ≠ (v255 : Value).ownBlock ∧ some k_ ≠ (v265 : Value).ownBlock)) (by (with_reducible repeat (first | apply Kd.R_alloc | apply Kd.R_drewN | apply Kd.R_drew)); exact Kd.R_mono HO_0.out (fun _ hk => ⟨⟨hk.1.1.1, ⟨hk.1.1.2, hk.1.2⟩⟩, hk.2⟩)) hg hat)).2.1)))
                        have n9_ := am_ (ho)
                        clear HO_0 HO239 HO256 HO266 HB HR229 HR236 HR246 HR253 HO259
                        have HO_0 := n0_
                        have HO239 := n1_
                        have HO256 := n2_
                        have HO266 := n3_
                        have HB := n4_
                        have HR229 := n5_
                        have HR236 := n6_
                        have HR246 := n7_
                        have HR253 := n8_
                        have HO262 := n9_
                        clear n0_ n1_ n2_ n3_ n4_ n5_ n6_ n7_ n8_ n9_ ho hb hg hat
                        refine hK.out _ _ ⟨HS0_, HS1_, HS2_, HS3_, HS4_, HS5_, HS6_, HS7_⟩ (fun hHeld => ?_)
                        clear hK K
                        refine norm_ (a' := ?_) ?_ ?_
                        rotate_left
                        ·show Act.put _ (some 49) _ = _
                         simp only [Act.put, sx_, s0_, s1_, i64_w, i32_w]
                         rfl
                        exact norm_ (by simp only [putAll, Act.put, List.setIfInBounds_toArray, List.set_cons_zero, List.set_cons_succ]) (hCont (v258, v261, v265) _ ⟨hHeld, (by (with_reducible repeat (first | apply Kd.R_alloc | apply Kd.R_drewN | apply Kd.R_drew)); exact Kd.R_mono HO239.out (fun _ hk => ⟨hk.1.2.1, ⟨hk.2, ⟨hk.1.2.2, hk.1.1⟩⟩⟩)), (by (with_reducible repeat (first | apply Kd.R_alloc | apply Kd.R_drewN | apply Kd.R_drew)); exact Kd.R_mono HO256.out (fun _ hk => ⟨hk.1.2.1, ⟨hk.2, ⟨hk.1.2.2, hk.1.1⟩⟩⟩)), (by (with_reducible repeat (first | apply Kd.R_alloc | apply Kd.R_drewN | apply Kd.R_drew)); exact Kd.R_mono HO262.out (fun _ hk => ⟨hk.2.1, ⟨hk.2.2.1, ⟨hk.2.2.2, hk.1⟩⟩⟩)), (by (with_reducible repeat (first | apply Kd.R_alloc | apply Kd.R_drewN | apply Kd.R_drew)); exact Kd.R_mono HO266.out (fun _ hk => ⟨hk.1.2.1, ⟨hk.1.2.2, ⟨hk.2, hk.1.1⟩⟩⟩)), (by (with_reducible repeat (first | apply Kd.R_alloc | apply Kd.R_drewN | apply Kd.R_drew)); exact Kd.R_mono HO_0.out (fun _ hk => ⟨hk.1.1, ⟨hk.1.2.1, ⟨hk.2, hk.1.2.2⟩⟩⟩)), (bel_ HB.out)⟩)
                      rintro ⟨v258, v261, v265⟩ w70 ⟨hS_, h0_, h1_, h2_, h3_, h4_, h5_⟩
                      have n0_ : Aside0 (Kd.R k27 27 w70 w.heap.size (fun k_ => some k_ ≠ (v255 : Value).ownBlock ∧ some k_ ≠ (v261 : Value).ownBlock ∧ some k_ ≠ (v265 : Value).ownBlock ∧ some k_ ≠ (.slice (some ad263) t217.length co49 : Value).ownBlock) v238 y237) := ⟨h0_⟩
                      have n1_ : Aside0 (Kd.R k27 27 w70 w.heap.size (fun k_ => some k_ ≠ (v238 : Value).ownBlock ∧ some k_ ≠ (v261 : Value).ownBlock ∧ some k_ ≠ (v265 : Value).ownBlock ∧ some k_ ≠ (.slice (some ad263) t217.length co49 : Value).ownBlock) v255 y254) := ⟨h1_⟩
                      have n2_ : Aside0 (Kd.R k27 27 w70 w.heap.size (fun k_ => some k_ ≠ (v238 : Value).ownBlock ∧ some k_ ≠ (v255 : Value).ownBlock ∧ some k_ ≠ (v265 : Value).ownBlock ∧ some k_ ≠ (.slice (some ad263) t217.length co49 : Value).ownBlock) v261 y260) := ⟨h2_⟩
                      have n3_ : Aside0 (Kd.R k27 27 w70 w.heap.size (fun k_ => some k_ ≠ (v238 : Value).ownBlock ∧ some k_ ≠ (v255 : Value).ownBlock ∧ some k_ ≠ (v261 : Value).ownBlock ∧ some k_ ≠ (.slice (some ad263) t217.length co49 : Value).ownBlock) v265 y264) := ⟨h3_⟩
                      have n4_ : Aside0 (Kd.R k27 27 w70 w.heap.size (fun k_ => some k_ ≠ (v238 : Value).ownBlock ∧ some k_ ≠ (v255 : Value).ownBlock ∧ some k_ ≠ (v261 : Value).ownBlock ∧ some k_ ≠ (v265 : Value).ownBlock) (.slice (some ad263) t217.length co49) t217) := ⟨h4_⟩
                      have n5_ : Aside0 (Below w.heap.size w w70) := ⟨h5_⟩
                      clear HO_0 HO239 HO256 HR229 HR236 HR246 HR253 HB h0_ h1_ h2_ h3_ h4_ h5_
                      have HO239 := n0_
                      have HO256 := n1_
                      have HO262 := n2_
                      have HO266 := n3_
                      have HO_0 := n4_
                      have HB := n5_
                      clear n0_ n1_ n2_ n3_ n4_ n5_
                      have hHeld : w70.cell? (ad263.add (((ji18)).toNat * 8)) = some (.int .i64 ((rd_T27 t217 (ji18)).f0)) ∧ w70.cell? ⟨(ad263.add (((ji18)).toNat * 8)).block, (ad263.add (((ji18)).toNat * 8)).off + 1, none⟩ = some (.string ((rd_T27 t217 (ji18)).f1)) ∧ w70.cell? ⟨(ad263.add (((ji18)).toNat * 8)).block, (ad263.add (((ji18)).toNat * 8)).off + 2, none⟩ = some (.string ((rd_T27 t217 (ji18)).f2)) ∧ w70.cell? ⟨(ad263.add (((ji18)).toNat * 8)).block, (ad263.add (((ji18)).toNat * 8)).off + 3, none⟩ = some (.string ((rd_T27 t217 (ji18)).f3)) ∧ w70.cell? ⟨(ad263.add (((ji18)).toNat * 8)).block, (ad263.add (((ji18)).toNat * 8)).off + 4, none⟩ = some (.int .i64 ((rd_T27 t217 (ji18)).f4)) ∧ w70.cell? ⟨(ad263.add (((ji18)).toNat * 8)).block, (ad263.add (((ji18)).toNat * 8)).off + 5, none⟩ = some (.string ((rd_T27 t217 (ji18)).f5)) ∧ w70.cell? ⟨(ad263.add (((ji18)).toNat * 8)).block, (ad263.add (((ji18)).toNat * 8)).off + 6, none⟩ = some (.bool ((rd_T27 t217 (ji18)).f6)) ∧ w70.cell? ⟨(ad263.add (((ji18)).toNat * 8)).block, (ad263.add (((ji18)).toNat * 8)).off + 7, none⟩ = some (.int .i64 ((rd_T27 t217 (ji18)).f7)) := hS_
                      obtain ⟨Ao72, co72, eo72⟩ := Kd.R_slice HO266.out
                      (first | subst eo72 | (injection eo72 with f1_ f2_ f3_; have f4_ := f1_.symm; have f5_ := f3_.symm; clear f1_ f2_ f3_; subst f4_; subst f5_))
                      refine norm_ (a' := ?_) ?_ ?_
                      rotate_left
                      ·simp only [putAll, Act.put, List.setIfInBounds_toArray, List.set_cons_zero, List.set_cons_succ]
                       rfl
                      refine one_ (i := 8) (N := some 55) #[true, true, true, true, true, true, true, true, true, false] rfl rfl (one_of HT_.out kr_) (by decide) (fun K hK => ?_)
                      refine Kd.R_append_rows_step k27 (w0 := w) w.heap.size (by rfl) (.tmp 49) (.tmp 54) 22 27 (.agg #[(.int .i64 0), (.string ⟨#[]⟩), (.string ⟨#[]⟩), (.string ⟨#[]⟩), (.int .i64 0), (.string ⟨#[]⟩), (.bool false), (.int .i64 0)]) 96 rfl Tryd.underlying22 info27 rfl (by decide) (by omega) v261 y260 y264 _ _ _ (fun k_ => some k_ ≠ (.slice (some ad263) t217.length co49 : Value).ownBlock ∧ some k_ ≠ (v238 : Value).ownBlock ∧ some k_ ≠ (v255 : Value).ownBlock ∧ some k_ ≠ (.slice Ao72 y264.length co72 : Value).ownBlock) (fun _ => False) rfl rfl ?aO ?aR (fun _ _ h => h) (fun _ h => h.elim) ?aF ?aB ?aS ?aL ?_
                      (case aR => exact C_ (Kd.R_reads' HO266.out).2.2)
                      (case aB => exact (bel_ HB.out))
                      (case aF => exact (fun k_ hk => ⟨Kd.fresh' (Kd.R_lt (R_ HO_0.out)) k_ hk, Kd.fresh' (Kd.R_lt (R_ HO239.out)) k_ hk, Kd.fresh' (Kd.R_lt (R_ HO256.out)) k_ hk, Kd.fresh' (Kd.R_lt (R_ HO266.out)) k_ hk⟩))
                      (case aO => exact (by (with_reducible repeat (first | apply Kd.R_alloc | apply Kd.R_drewN | apply Kd.R_drew)); exact Kd.R_mono HO262.out (fun _ hk => ⟨hk.2.2.2, ⟨hk.1, ⟨hk.2.1, hk.2.2.1⟩⟩⟩)))
                      (case aS => exact (below_size (bel_ HB.out)))
                      (case aL => have := LMc34.out; omega)
                      intro v268 w71 ho hb hg hat
                      have HS0_ := cell_grown hg (hHeld.1) (by first | (rw [add_block]; exact (fun e_ => (((R_ HO262.out).1 _ e_.symm).2.2.2) rfl)) | (show some (Addr.add _ _).block ≠ _; rw [add_block]; exact (fun e_ => (((R_ HO262.out).1 _ e_.symm).2.2.2) rfl)) | exact (fun e_ => (((R_ HO262.out).1 _ e_.symm).2.2.2) rfl))
                      have HS1_ := cell_grown hg (hHeld.2.1) (by first | (rw [add_block]; exact (fun e_ => (((R_ HO262.out).1 _ e_.symm).2.2.2) rfl)) | (show some (Addr.add _ _).block ≠ _; rw [add_block]; exact (fun e_ => (((R_ HO262.out).1 _ e_.symm).2.2.2) rfl)) | exact (fun e_ => (((R_ HO262.out).1 _ e_.symm).2.2.2) rfl))
                      have HS2_ := cell_grown hg (hHeld.2.2.1) (by first | (rw [add_block]; exact (fun e_ => (((R_ HO262.out).1 _ e_.symm).2.2.2) rfl)) | (show some (Addr.add _ _).block ≠ _; rw [add_block]; exact (fun e_ => (((R_ HO262.out).1 _ e_.symm).2.2.2) rfl)) | exact (fun e_ => (((R_ HO262.out).1 _ e_.symm).2.2.2) rfl))
                      have HS3_ := cell_grown hg (hHeld.2.2.2.1) (by first | (rw [add_block]; exact (fun e_ => (((R_ HO262.out).1 _ e_.symm).2.2.2) rfl)) | (show some (Addr.add _ _).block ≠ _; rw [add_block]; exact (fun e_ => (((R_ HO262.out).1 _ e_.symm).2.2.2) rfl)) | exact (fun e_ => (((R_ HO262.out).1 _ e_.symm).2.2.2) rfl))
                      have HS4_ := cell_grown hg (hHeld.2.2.2.2.1) (by first | (rw [add_block]; exact (fun e_ => (((R_ HO262.out).1 _ e_.symm).2.2.2) rfl)) | (show some (Addr.add _ _).block ≠ _; rw [add_block]; exact (fun e_ => (((R_ HO262.out).1 _ e_.symm).2.2.2) rfl)) | exact (fun e_ => (((R_ HO262.out).1 _ e_.symm).2.2.2) rfl))
                      have HS5_ := cell_grown hg (hHeld.2.2.2.2.2.1) (by first | (rw [add_block]; exact (fun e_ => (((R_ HO262.out).1 _ e_.symm).2.2.2) rfl)) | (show some (Addr.add _ _).block ≠ _; rw [add_block]; exact (fun e_ => (((R_ HO262.out).1 _ e_.symm).2.2.2) rfl)) | exact (fun e_ => (((R_ HO262.out).1 _ e_.symm).2.2.2) rfl))
                      have HS6_ := cell_grown hg (hHeld.2.2.2.2.2.2.1) (by first | (rw [add_block]; exact (fun e_ => (((R_ HO262.out).1 _ e_.symm).2.2.2) rfl)) | (show some (Addr.add _ _).block ≠ _; rw [add_block]; exact (fun e_ => (((R_ HO262.out).1 _ e_.symm).2.2.2) rfl)) | exact (fun e_ => (((R_ HO262.out).1 _ e_.symm).2.2.2) rfl))
                      have HS7_ := cell_grown hg (hHeld.2.2.2.2.2.2.2) (by first | (rw [add_block]; exact (fun e_ => (((R_ HO262.out).1 _ e_.symm).2.2.2) rfl)) | (show some (Addr.add _ _).block ≠ _; rw [add_block]; exact (fun e_ => (((R_ HO262.out).1 _ e_.symm).2.2.2) rfl)) | exact (fun e_ => (((R_ HO262.out).1 _ e_.symm).2.2.2) rfl))
                      rw [← Ny267.out] at ho
                      have n0_ := am_ (Kd.R_after (ok := (fun k_ => some k_ ≠ (v238 : Value).ownBlock ∧ some k_ ≠ (v255 : Value).ownBlock ∧ some k_ ≠ (.slice Ao72 y264.length co72 : Value).ownBlock)) (by (with_reducible repeat (first | apply Kd.R_alloc | apply Kd.R_drewN | apply Kd.R_drew)); exact Kd.R_mono HO_0.out (fun _ hk => ⟨⟨hk.1, ⟨hk.2.1, hk.2.2.2⟩⟩, hk.2.2.1⟩)) hg hat)
                      have n1_ := am_ (Kd.R_after (ok := (fun k_ => some k_ ≠ (.slice (some ad263) t217.length co49 : Value).ownBlock ∧ some k_ ≠ (v255 : Value).ownBlock ∧ some k_ ≠ (.slice Ao72 y264.length co72 : Value).ownBlock)) (by (with_reducible repeat (first | apply Kd.R_alloc | apply Kd.R_drewN | apply Kd.R_drew)); exact Kd.R_mono HO239.out (fun _ hk => ⟨⟨hk.2.2.2, ⟨hk.1, hk.2.2.1⟩⟩, hk.2.1⟩)) hg hat)
                      have n2_ := am_ (Kd.R_after (ok := (fun k_ => some k_ ≠ (.slice (some ad263) t217.length co49 : Value).ownBlock ∧ some k_ ≠ (v238 : Value).ownBlock ∧ some k_ ≠ (.slice Ao72 y264.length co72 : Value).ownBlock)) (by (with_reducible repeat (first | apply Kd.R_alloc | apply Kd.R_drewN | apply Kd.R_drew)); exact Kd.R_mono HO256.out (fun _ hk => ⟨⟨hk.2.2.2, ⟨hk.1, hk.2.2.1⟩⟩, hk.2.1⟩)) hg hat)
                      have n3_ := am_ (Kd.R_after (ok := (fun k_ => some k_ ≠ (.slice (some ad263) t217.length co49 : Value).ownBlock ∧ some k_ ≠ (v238 : Value).ownBlock ∧ some k_ ≠ (v255 : Value).ownBlock)) (by (with_reducible repeat (first | apply Kd.R_alloc | apply Kd.R_drewN | apply Kd.R_drew)); exact Kd.R_mono HO266.out (fun _ hk => ⟨⟨hk.2.2.2, ⟨hk.1, hk.2.1⟩⟩, hk.2.2.1⟩)) hg hat)
                      have n4_ := am_ (hb)
                      have n5_ := am_ (ho)
                      clear HO_0 HO239 HO256 HO266 HB HO262
                      have HO_0 := n0_
                      have HO239 := n1_
                      have HO256 := n2_
                      have HO266 := n3_
                      have HB := n4_
                      have HO269 := n5_
                      clear n0_ n1_ n2_ n3_ n4_ n5_ ho hb hg hat
                      refine hK.out _ _ ⟨HS0_, HS1_, HS2_, HS3_, HS4_, HS5_, HS6_, HS7_⟩ (fun hHeld => ?_)
                      clear hK K
                      refine norm_ (a' := ?_) ?_ ?_
                      rotate_left
                      ·show Act.put _ (some 55) _ = _
                       simp only [Act.put, sx_, s0_, s1_, i64_w, i32_w]
                       rfl
                      refine pure_ (i := 9) (N := some 8) (v := ?_) (a' := ?_) #[true, true, true, true, true, true, true, true, true, true] rfl rfl (any_of HT_.out kr_) (fun _ _ _ h => h) (Or.inl ⟨by rfl, ?_⟩) ?_ ?_
                      rotate_left
                      ·intro w'
                       go_simp
                       with_reducible rfl
                      rotate_left
                      ·simp only [Act.put, sx_, s0_, s1_, i64_w, i32_w]
                       rfl
                      refine done_ (done_of HT_.out kr_) ?_
                      have p270 : 0 ≤ ((ji18) : Int) := of_decide_eq_true as_
                      have q270 : (ji18) < (t217.length : Int) := of_decide_eq_true as_
                      obtain ⟨ad270, e270, hx270_0, hx270_1, hx270_2, hx270_3, hx270_4, hx270_5, hx270_6, hx270_7⟩ := at_T27 (Kd.R_reads' HO_0.out).2.2 (ji18) p270 q270
                      obtain rfl : ad263 = ad270 := (by injection e270)
                      replace p270 := eq_true p270
                      replace q270 := eq_true q270
                      try go_wp2_with (first | ((with_reducible refine gate_callee (f := 7) rfl ?_); refine goesL_ (some 60) rfl rfl Tryd.func7 kr_ rfl #[.agg #[.int .i64 ((rd_T27 t217 (ji18)).f0), .string ((rd_T27 t217 (ji18)).f1), .string ((rd_T27 t217 (ji18)).f2), .string ((rd_T27 t217 (ji18)).f3), .int .i64 ((rd_T27 t217 (ji18)).f4), .string ((rd_T27 t217 (ji18)).f5), .bool ((rd_T27 t217 (ji18)).f6), .int .i64 ((rd_T27 t217 (ji18)).f7)]] rfl (by (try simp only [List.map_toArray, List.map_cons, List.map_nil]); first | done | (simp only [hji18]; rfl) | rfl | (simp only [List.length_drop, List.length_take]; rfl)) ?_; (with_reducible refine (filter_May.calls kj3 ((rd_T27 t217 (ji18)).f0) ((rd_T27 t217 (ji18)).f1) ((rd_T27 t217 (ji18)).f2) ((rd_T27 t217 (ji18)).f3) ((rd_T27 t217 (ji18)).f4) ((rd_T27 t217 (ji18)).f5) ((rd_T27 t217 (ji18)).f6) ((rd_T27 t217 (ji18)).f7) true _ A35.out).mono ?_); rintro e w73 ⟨rfl, hb⟩; refine ⟨_, rfl, ?_⟩; have n0_ := am_ (Kd.R_below (R_ HO_0.out) hb); have n1_ := am_ (Kd.R_below (R_ HO239.out) hb); have n2_ := am_ (Kd.R_below (R_ HO256.out) hb); have n3_ := am_ (Kd.R_below (R_ HO266.out) hb); have n4_ := am_ (Kd.R_below (R_ HO269.out) hb); have n5_ := am_ (below_step (bel_ HB.out) hb); clear HO_0 HO239 HO256 HO266 HO269 HB; have HO_0 := n0_; have HO239 := n1_; have HO256 := n2_; have HO266 := n3_; have HO269 := n4_; have HB := n5_; clear n0_ n1_ n2_ n3_ n4_ n5_; (try clear hb); (try clear hb2); (try clear hk); (try clear hi); have q74 : ((ji28) : Int) ≤ ((t217.length : Int) : Int) := of_decide_eq_true as_; obtain ⟨i074, hi074, _, hsz74, _⟩ := info_parts info27; have hroom74 : t217.length ≤ co49 := (Kd.R_reads' HO_0.out).2.1; have hC74 : Kd.C k27 _ (some ad263) t217.length t217 := (Kd.R_reads' HO_0.out).2.2; have ql74 : ((ji18) : Int) ≤ ((ji28) : Int) := of_decide_eq_true as_; have q074 : (0 : Int) ≤ ((ji18) : Int) := of_decide_eq_true as_; have hcut74 := cut_mid (P := Tryd.prog) 22 27 .i64 .i64 Tryd.underlying22 hi074 8 hsz74 (some ad263) t217.length co49 (ji18) (ji28) q074 ql74 q74 hroom74; have hr74 := Kd.C_mid (lo := ((ji18) : Int).toNat) (hi := ((ji28) : Int).toNat) (c := co49) hC74 (by omega) (by omega) hroom74; obtain ⟨A74, hA74⟩ : ∃ A1, A1 = (if co49 = ((ji18) : Int).toNat then (some ad263) else ((some ad263) : Option Addr).map (·.add (((ji18) : Int).toNat * 8))) := ⟨_, rfl⟩; obtain ⟨c74, hc74⟩ : ∃ c1, c1 = co49 - ((ji18) : Int).toNat := ⟨_, rfl⟩; have hy74 : y272.length = ((ji28) : Int).toNat - ((ji18) : Int).toNat := (by rw [Ny272.out, List.length_drop, List.length_take] <;> omega); rw [show ((t217).take ((ji28) : Int).toNat).drop ((ji18) : Int).toNat = y272 from Ny272.out.symm] at hr74; replace hr74 : Kd.C k27 _ A74 y272.length y272 := (by rw [hA74]; exact hr74); rw [← hy74, ← hA74, ← hc74] at hcut74; have HR275 := Aside0.mk hr74; have HC275 := am_ (show y272.length ≤ c74 from by rw [hy74, hc74]; exact Nat.sub_le_sub_right (Nat.le_trans (by omega) hroom74) _); clear hr74 hC74 hroom74 hi074 hsz74 hc74; have KY74 := Aside0.mk hy74; have KA74 := Aside0.mk hA74; clear hy74 hA74; have KL74 := am_ (show ((ji28) : Int).toNat ≤ t217.length from by omega); have KM74 := am_ (show ((ji18) : Int).toNat ≤ ((ji28) : Int).toNat from by omega); replace q74 := eq_true q74) | (go_at_call 5; (with_reducible refine (filter_All.calls kj3 _ _ y272 true _ ?side1 ?side2 A40.out).mono ?_); (case side1 => repeat (first | exact (by repeat (first | (with_reducible exact HR275.out) | (with_reducible refine Kd.C_alloc ?_ _) | (with_reducible refine Kd.C_drewN ?_ _) | (with_reducible refine Kd.C_drew ?_) | exact HR275.out)) | (with_reducible refine Kd.C_alloc ?_ _) | (with_reducible refine Kd.C_drewN ?_ _) | (with_reducible refine Kd.C_drew ?_))); (case side2 => exact HC275.out); rintro e w75 ⟨rfl, hb⟩; have n0_ := am_ (Kd.R_below (R_ HO_0.out) hb); have n1_ := am_ (Kd.R_below (R_ HO239.out) hb); have n2_ := am_ (Kd.R_below (R_ HO256.out) hb); have n3_ := am_ (Kd.R_below (R_ HO266.out) hb); have n4_ := am_ (Kd.R_below (R_ HO269.out) hb); have n5_ := am_ (Kd.C_below (by repeat (first | (with_reducible exact HR275.out) | (with_reducible refine Kd.C_alloc ?_ _) | (with_reducible refine Kd.C_drewN ?_ _) | (with_reducible refine Kd.C_drew ?_) | exact HR275.out)) hb); have n6_ := am_ (below_step (bel_ HB.out) hb); clear HO_0 HO239 HO256 HO266 HO269 HR275 HB; have HO_0 := n0_; have HO239 := n1_; have HO256 := n2_; have HO266 := n3_; have HO269 := n4_; have HR275 := n5_; have HB := n6_; clear n0_ n1_ n2_ n3_ n4_ n5_ n6_; (try clear hb); (try clear hb2); (try clear hk); (try clear hi); obtain ⟨Ao76, co76, eo76⟩ := Kd.R_slice HO239.out; subst eo76) | (go_at_call 5; (with_reducible refine (filter_All.calls kj3 _ _ y237 true _ ?side1 ?side2 A42.out).mono ?_); (case side1 => exact C_ (Kd.R_reads' HO239.out).2.2); (case side2 => exact (Kd.R_reads' HO239.out).2.1); rintro e w77 ⟨rfl, hb⟩; have n0_ := am_ (Kd.R_below (R_ HO_0.out) hb); have n1_ := am_ (Kd.R_below (R_ HO239.out) hb); have n2_ := am_ (Kd.R_below (R_ HO256.out) hb); have n3_ := am_ (Kd.R_below (R_ HO266.out) hb); have n4_ := am_ (Kd.R_below (R_ HO269.out) hb); have n5_ := am_ (Kd.C_below (by repeat (first | (with_reducible exact HR275.out) | (with_reducible refine Kd.C_alloc ?_ _) | (with_reducible refine Kd.C_drewN ?_ _) | (with_reducible refine Kd.C_drew ?_) | exact HR275.out)) hb); have n6_ := am_ (below_step (bel_ HB.out) hb); clear HO_0 HO239 HO256 HO266 HO269 HR275 HB; have HO_0 := n0_; have HO239 := n1_; have HO256 := n2_; have HO266 := n3_; have HO269 := n4_; have HR275 := n5_; have HB := n6_; clear n0_ n1_ n2_ n3_ n4_ n5_ n6_; (try clear hb); (try clear hb2); (try clear hk); (try clear hi); obtain ⟨Ao78, co78, eo78⟩ := Kd.R_slice HO256.out; subst eo78) | (go_at_call 5; (with_reducible refine (filter_All.calls kj3 _ _ y254 true _ ?side1 ?side2 A44.out).mono ?_); (case side1 => exact C_ (Kd.R_reads' HO256.out).2.2); (case side2 => exact (Kd.R_reads' HO256.out).2.1); rintro e w79 ⟨rfl, hb⟩; have n0_ := am_ (Kd.R_below (R_ HO_0.out) hb); have n1_ := am_ (Kd.R_below (R_ HO239.out) hb); have n2_ := am_ (Kd.R_below (R_ HO256.out) hb); have n3_ := am_ (Kd.R_below (R_ HO266.out) hb); have n4_ := am_ (Kd.R_below (R_ HO269.out) hb); have n5_ := am_ (Kd.C_below (by repeat (first | (with_reducible exact HR275.out) | (with_reducible refine Kd.C_alloc ?_ _) | (with_reducible refine Kd.C_drewN ?_ _) | (with_reducible refine Kd.C_drew ?_) | exact HR275.out)) hb); have n6_ := am_ (below_step (bel_ HB.out) hb); clear HO_0 HO239 HO256 HO266 HO269 HR275 HB; have HO_0 := n0_; have HO239 := n1_; have HO256 := n2_; have HO266 := n3_; have HO269 := n4_; have HR275 := n5_; have HB := n6_; clear n0_ n1_ n2_ n3_ n4_ n5_ n6_; (try clear hb); (try clear hb2); (try clear hk); (try clear hi); obtain ⟨Ao80, co80, eo80⟩ := Kd.R_slice HO269.out; subst eo80) | (go_at_call 5; (with_reducible refine (filter_All.calls kj3 _ _ y267 false _ ?side1 ?side2 A46.out).mono ?_); (case side1 => exact C_ (Kd.R_reads' HO269.out).2.2); (case side2 => exact (Kd.R_reads' HO269.out).2.1); rintro e w81 ⟨rfl, hb⟩; have n0_ := am_ (Kd.R_below (R_ HO_0.out) hb); have n1_ := am_ (Kd.R_below (R_ HO239.out) hb); have n2_ := am_ (Kd.R_below (R_ HO256.out) hb); have n3_ := am_ (Kd.R_below (R_ HO266.out) hb); have n4_ := am_ (Kd.R_below (R_ HO269.out) hb); have n5_ := am_ (Kd.C_below (by repeat (first | (with_reducible exact HR275.out) | (with_reducible refine Kd.C_alloc ?_ _) | (with_reducible refine Kd.C_drewN ?_ _) | (with_reducible refine Kd.C_drew ?_) | exact HR275.out)) hb); have n6_ := am_ (below_step (bel_ HB.out) hb); clear HO_0 HO239 HO256 HO266 HO269 HR275 HB; have HO_0 := n0_; have HO239 := n1_; have HO256 := n2_; have HO266 := n3_; have HO269 := n4_; have HR275 := n5_; have HB := n6_; clear n0_ n1_ n2_ n3_ n4_ n5_ n6_; (try clear hb); (try clear hb2); (try clear hk); (try clear hi)) | (go_at_call 6; (with_reducible refine (tolllaw07_awake.calls kj3  t280 _ (gm_ HGL.out (bel_ HB.out)) A48.out).mono ?_); rintro e w82 ⟨rfl, hb⟩; have n0_ := am_ (Kd.R_below (R_ HO_0.out) hb); have n1_ := am_ (Kd.R_below (R_ HO239.out) hb); have n2_ := am_ (Kd.R_below (R_ HO256.out) hb); have n3_ := am_ (Kd.R_below (R_ HO266.out) hb); have n4_ := am_ (Kd.R_below (R_ HO269.out) hb); have n5_ := am_ (Kd.C_below (by repeat (first | (with_reducible exact HR275.out) | (with_reducible refine Kd.C_alloc ?_ _) | (with_reducible refine Kd.C_drewN ?_ _) | (with_reducible refine Kd.C_drew ?_) | exact HR275.out)) hb); have n6_ := am_ (below_step (bel_ HB.out) hb); clear HO_0 HO239 HO256 HO266 HO269 HR275 HB; have HO_0 := n0_; have HO239 := n1_; have HO256 := n2_; have HO266 := n3_; have HO269 := n4_; have HR275 := n5_; have HB := n6_; clear n0_ n1_ n2_ n3_ n4_ n5_ n6_; (try clear hb); (try clear hb2); (try clear hk); (try clear hi)))
                      go_ret
                      exact ⟨by first | rfl | (simp [errW_none, errW_some] <;> rfl) | (simp only [← hji18, ← hji28]; first | rfl | (simp [errW_none, errW_some] <;> rfl)) | (simp [*, errW_none, errW_some] <;> rfl), bel_ HB.out⟩
                    ·replace c45 := Bool.eq_false_iff.mpr c45
                     subst c45
                     have H1 : (none) = some r := by rw [if_neg (show ¬ (false = true) by decide)] at H; exact H
                     clear H
                     have H := H1
                     clear H1
                     exact absurd H (by simp)
                   ·replace c43 := Bool.eq_false_iff.mpr c43
                    subst c43
                    have H1 : (none) = some r := by rw [if_neg (show ¬ (false = true) by decide)] at H; exact H
                    clear H
                    have H := H1
                    clear H1
                    exact absurd H (by simp)
                  ·replace c41 := Bool.eq_false_iff.mpr c41
                   subst c41
                   have H1 : (none) = some r := by rw [if_neg (show ¬ (false = true) by decide)] at H; exact H
                   clear H
                   have H := H1
                   clear H1
                   exact absurd H (by simp)
                 ·rw [if_neg c38] at H
                  exact absurd H (by simp)
                ·replace c36 := Bool.eq_false_iff.mpr c36
                 subst c36
                 have H1 : (none) = some r := by rw [if_neg (show ¬ (false = true) by decide)] at H; exact H
                 clear H
                 have H := H1
                 clear H1
                 exact absurd H (by simp)
               ·rw [if_neg c34] at H
                exact absurd H (by simp)
              ·rw [if_neg c33] at H
               exact absurd H (by simp)
             ·rw [if_neg c32] at H
              exact absurd H (by simp)
            ·rw [if_neg c31] at H
             exact absurd H (by simp)
           ·rw [if_neg c30] at H
            exact absurd H (by simp)
          ·rw [if_neg c29] at H
           exact absurd H (by simp)
         ·rw [if_neg c27] at H
          exact absurd H (by simp)
        ·rw [if_neg c24] at H
         exact absurd H (by simp)
       ·rw [if_neg c21] at H
        exact absurd H (by simp)
      ·rw [if_neg c20] at H
       exact absurd H (by simp)
     ·rw [if_neg c19] at H
      exact absurd H (by simp)

/-- THE ONE PURE STATEMENT of tolllaw07_FilterOnce. -/
def tolllaw07_FilterOnce.Pure : Prop := ∀ (l0 : List (S27)) (a1 : Int), (l0.length ≤ maxLen ∧ l0.length * 96 ≤ 140737488351232 ∧ ∀ y ∈ l0, ((Lit.int .i64 y.f0).wf = true) ∧ (y.f1.size ≤ 140737488351232) ∧ (y.f2.size ≤ 140737488351232) ∧ (y.f3.size ≤ 140737488351232) ∧ ((Lit.int .i64 y.f4).wf = true) ∧ (y.f5.size ≤ 140737488351232) ∧ (True) ∧ ((Lit.int .i64 y.f7).wf = true)) → ((Lit.int .u8 a1).wf = true) → ∃ k, tolllaw07_FilterOnce.f k l0 a1 = some true

end Go.Proofs.YtfdopmjgiakcdaaDoor.P
