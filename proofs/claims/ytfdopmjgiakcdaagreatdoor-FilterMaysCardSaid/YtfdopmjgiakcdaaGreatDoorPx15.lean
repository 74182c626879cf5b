-- written by wip/tool/hprint.py of this repo: the kit's print, with contracts by hand joined; Lean checks it.
import Derived.Test.YtfdopmjgiakcdaaGreatDoorPx0
import Derived.Test.YtfdopmjgiakcdaaGreatDoorPx14
namespace Go.Proofs.YtfdopmjgiakcdaaGreatDoor.P
open Go.RowKit Go.Proofs.YtfdopmjgiakcdaaGreatDoorW.PrintWords Go.Proofs.YtfdopmjgiakcdaaGreatDoorW.PrintLast Go.Proofs.YtfdopmjgiakcdaaGreatDoorW.PrintMore
attribute [local go_sem] max2_int min2_int max_two min_two max_three min_three max_four min_four   -- for this text's walks alone
set_option linter.unusedVariables false
set_option linter.unusedSimpArgs false

/-! ### tollref03_Is: function 57 -/
mutual
def tollref03_Is.j0 : Nat → ByteArray → Bool → Option (Bool)
 | 0, _, _ => none
 | k + 1, x0, x16 => if x16 = true then (some false) else (tollref03_Is.l0 k x0 0)
def tollref03_Is.l0 : Nat → ByteArray → Int → Option (Bool)
 | 0, _, _ => none
 | k + 1, x0, x3 => if x3 < (x0.size : Int) then (if 0 ≤ x3 then (if (bt x0 x3) < 33 then (some false) else (if (bt x0 x3) > 126 then (some false) else (if (bt x0 x3) = 63 then (some false) else (if (bt x0 x3) = 35 then (some false) else (tollref03_Is.l0 k x0 (wrap64 (x3 + 1))))))) else (none)) else (some true)
end
def tollref03_Is.f (k : Nat) (a0 : ByteArray) : Option (Bool) := if (a0.size : Int) < 1 then (tollref03_Is.j0 k a0 true) else (if (a0.size : Int) > 60 then (tollref03_Is.j0 k a0 true) else (if 0 < (a0.size : Int) then (tollref03_Is.j0 k a0 ((bt a0 0) != 47)) else (none)))
theorem tollref03_Is.mono_l : ∀ k, (∀ y0 y1, LeO (tollref03_Is.j0 k y0 y1) (tollref03_Is.j0 (k + 1) y0 y1)) ∧ (∀ y0 y1, LeO (tollref03_Is.l0 k y0 y1) (tollref03_Is.l0 (k + 1) y0 y1))
 | 0 => ⟨fun _ _ r h => by simp [tollref03_Is.j0] at h, fun _ _ r h => by simp [tollref03_Is.l0] at h⟩
 | k + 1 => by
  obtain ⟨ih0, ih1⟩ := tollref03_Is.mono_l k
  refine ⟨?_, ?_⟩
  ·intro y0 y1
   unfold tollref03_Is.j0
   repeat' first
   | (with_reducible exact ih0 _ _)
   | (with_reducible exact ih1 _ _)
   | (with_reducible exact LeO.refl _)
   | (with_reducible exact LeO.none _)
   | (with_reducible refine LeO.ite ?_ ?_)
   | (with_reducible refine LeO.bind ?_ (fun _ => ?_))
   | exact ih0 _ _
   | exact ih1 _ _
   | exact LeO.none _
   | refine LeO.ite ?_ ?_
   | refine LeO.bind ?_ (fun _ => ?_)
  ·intro y0 y1
   unfold tollref03_Is.l0
   repeat' first
   | (with_reducible exact ih0 _ _)
   | (with_reducible exact ih1 _ _)
   | (with_reducible exact LeO.refl _)
   | (with_reducible exact LeO.none _)
   | (with_reducible refine LeO.ite ?_ ?_)
   | (with_reducible refine LeO.bind ?_ (fun _ => ?_))
   | exact ih0 _ _
   | exact ih1 _ _
   | exact LeO.none _
   | refine LeO.ite ?_ ?_
   | refine LeO.bind ?_ (fun _ => ?_)
theorem tollref03_Is.mono : ∀ a0 k, LeO (tollref03_Is.f k a0) (tollref03_Is.f (k + 1) a0) := by
 intro a0 k
 obtain ⟨ih0, ih1⟩ := tollref03_Is.mono_l k
 unfold tollref03_Is.f
 repeat' first
   | (with_reducible exact ih0 _ _)
   | (with_reducible exact ih1 _ _)
   | (with_reducible exact LeO.refl _)
   | (with_reducible exact LeO.none _)
   | (with_reducible refine LeO.ite ?_ ?_)
   | (with_reducible refine LeO.bind ?_ (fun _ => ?_))
   | exact ih0 _ _
   | exact ih1 _ _
   | exact LeO.none _
   | refine LeO.ite ?_ ?_
   | refine LeO.bind ?_ (fun _ => ?_)
set_option maxHeartbeats 8000000 in
set_option maxRecDepth 100000 in
theorem tollref03_Is.calls (k : Nat) (a0 : ByteArray) (r : Bool) (w : World) (h : tollref03_Is.f k a0 = some r) :
  Calls Tryz.prog 57 #[.string a0] w fun e w' => e = .returned (.bool r) ∧ Drawn0 w w' := by
 have H : (if (a0.size : Int) < 1 then (tollref03_Is.j0 k a0 true) else (if (a0.size : Int) > 60 then (tollref03_Is.j0 k a0 true) else (if 0 < (a0.size : Int) then (tollref03_Is.j0 k a0 ((bt a0 0) != 47)) else (none)))) = some r := h
 clear h
 have HC2 := Aside0.mk H
 clear H
 go_enter Tryz.func57, Tryz.ntmps57
 go_upto_region 1 with (fail)
 go_cut [16] (fun v16 wc => ∃ (kq : Nat) (x16_1 : Bool), v16 = .bool x16_1 ∧ Aside0 (tollref03_Is.j0 kq a0 x16_1 = some r) ∧ Aside0 (kq ≤ k) ∧ Drawn0 w wc)
 case first =>
  have H := HC2.out
  clear HC2
  by_cases c3 : (a0.size : Int) < 1
  ·rw [if_pos c3] at H
   have c3b0 : decide ((a0.size : Int) < 1) = true := decide_eq_true c3
   have c3b1 : decide (a0.size < 1) = true := decide_eq_true (by omega)
   clear c3
   (first | rw [c3b0] | rw [c3b1] | rw [c3b2] | (simp only [i64_w, i32_w]; rw [c3b0]) | skip)
   have H' := Aside0.mk H
   clear H
   go_wp2
   go_meet
   case rel => exact ⟨_, (true), sd_, H', ⟨by first | omega | exact Nat.le_refl _⟩, by repeat (first | exact Drawn0.refl _ | apply Drawn0.step)⟩
  ·rw [if_neg c3] at H
   have c3b0 : decide ((a0.size : Int) < 1) = false := decide_eq_false c3
   have c3b1 : decide (a0.size < 1) = false := decide_eq_false (by omega)
   clear c3
   (first | rw [c3b0] | rw [c3b1] | rw [c3b2] | (simp only [i64_w, i32_w]; rw [c3b0]) | skip)
   by_cases c4 : (a0.size : Int) > 60
   ·rw [if_pos c4] at H
    have c4b0 : decide (60 < (a0.size : Int)) = true := decide_eq_true c4
    have c4b1 : decide (60 < a0.size) = true := decide_eq_true (by omega)
    clear c4
    have H' := Aside0.mk H
    clear H
    go_wp2
    go_meet
    case rel => exact ⟨_, (true), sd_, H', ⟨by first | omega | exact Nat.le_refl _⟩, by repeat (first | exact Drawn0.refl _ | apply Drawn0.step)⟩
   ·rw [if_neg c4] at H
    have c4b0 : decide (60 < (a0.size : Int)) = false := decide_eq_false c4
    have c4b1 : decide (60 < a0.size) = false := decide_eq_false (by omega)
    clear c4
    by_cases c5 : 0 < (a0.size : Int)
    ·rw [if_pos c5] at H
     have c5b0 : decide (0 < (a0.size : Int)) = true := decide_eq_true c5
     have c5b1 : decide (0 < a0.size) = true := decide_eq_true (by omega)
     clear c5
     have H' := Aside0.mk H
     clear H
     have p6 : 0 ≤ (0 : Int) := (by omega)
     have q6 : 0 < a0.size := (by have : (0 : Int) < (a0.size : Int) := of_decide_eq_true as_; omega)
     have hx6 : ∀ h : 0 < a0.size, ((a0[0]'h).toNat : Int) = bt a0 0 := bt_at a0 0
     clear p6
     have qi6 : (0 < (a0.size : Int)) = True := eq_true (of_decide_eq_true as_)
     replace q6 := eq_true q6
     go_wp2
     go_meet
     case rel => exact ⟨_, (((bt a0 0) != 47)), sd_, H', ⟨by first | omega | exact Nat.le_refl _⟩, by repeat (first | exact Drawn0.refl _ | apply Drawn0.step)⟩
    ·rw [if_neg c5] at H
     exact absurd H (by simp)
 case rest =>
  clear HC2
  try clear p2
  try clear c3
  try clear c3b0
  try clear c3b1
  try clear c3b2
  try clear c4
  try clear c4b0
  try clear c4b1
  try clear c5
  try clear c5b0
  try clear c5b1
  try clear p6
  try clear q6
  try clear hx6
  try clear qi6
  try clear p6
  try clear q6
  obtain ⟨kq, x16_1, rfl, HA, HJ1, ⟨mc1, rfl⟩⟩ := hcut
  cases kq with
  | zero => exact absurd HA.out (by simp [tollref03_Is.j0])
  | succ kj1 =>
   have H := HA.out
   clear HA
   simp only [tollref03_Is.j0] at H
   by_cases c7 : x16_1 = true
   ·subst c7
    have H1 : (some false) = some r := by rw [if_pos rfl] at H; exact H
    clear H
    have H := H1
    clear H1
    obtain rfl := Option.some.inj H
    go_wp2
    go_ret
    exact ⟨by first | rfl | (simp; done) | (simp [*]; done) | (simp [bne_nil_isEmpty, beq_nil_isEmpty]; done) | (simp [*, bne_nil_isEmpty, beq_nil_isEmpty]; done), by repeat (first | exact Drawn0.refl _ | apply Drawn0.step)⟩
   ·replace c7 := Bool.eq_false_iff.mpr c7
    subst c7
    have H1 : (tollref03_Is.l0 kj1 a0 0) = some r := by rw [if_neg (show ¬ (false = true) by decide)] at H; exact H
    clear H
    have H := H1
    clear H1
    have H' := Aside0.mk H
    clear H
    go_wp2
    go_loopg [3] kj1 (fun kq v3 w' => ∃ (x3_2 : Int), v3 = .int .i64 x3_2 ∧ Aside0 (tollref03_Is.l0 kq a0 x3_2 = some r) ∧ Aside0 (kq ≤ kj1) ∧ Drawn0 w w')
    case atStart => exact ⟨(0), sd_, H', ⟨Nat.le_refl _⟩, by repeat (first | exact Drawn0.refl _ | apply Drawn0.step)⟩
    case round =>
     clear H'
     try clear c1
     try clear p2
     try clear c3
     try clear c3b0
     try clear c3b1
     try clear c3b2
     try clear c4
     try clear c4b0
     try clear c4b1
     try clear c5
     try clear c5b0
     try clear c5b1
     try clear p6
     try clear q6
     try clear hx6
     try clear qi6
     try clear c7
     try clear p2
     try clear p6
     try clear q6
     obtain ⟨x3_2, rfl, HA, HK2, ⟨m2, rfl⟩⟩ := hrel
     cases gk with
     | zero => exact absurd HA.out (by simp [tollref03_Is.l0])
     | succ k2 =>
      have H := HA.out
      clear HA
      simp only [tollref03_Is.l0] at H
      by_cases c8 : x3_2 < (a0.size : Int)
      ·rw [if_pos c8] at H
       have c8b0 : decide (x3_2 < (a0.size : Int)) = true := decide_eq_true c8
       clear c8
       by_cases c9 : 0 ≤ x3_2
       ·rw [if_pos c9] at H
        have c9b0 : decide (0 ≤ x3_2) = true := decide_eq_true c9
        clear c9
        by_cases c11 : (bt a0 x3_2) < 33
        ·rw [if_pos c11] at H
         have c11b0 : decide ((bt a0 x3_2) < 33) = true := decide_eq_true c11
         clear c11
         obtain rfl := Option.some.inj H
         have p10 : 0 ≤ (x3_2 : Int) := of_decide_eq_true as_
         have q10 : x3_2 < (a0.size : Int) := of_decide_eq_true as_
         have hx10 := bt_at a0 x3_2
         replace p10 := eq_true p10
         replace q10 := eq_true q10
         go_wp2
         go_ret
         exact ⟨by first | rfl | (simp; done) | (simp [*]; done) | (simp [bne_nil_isEmpty, beq_nil_isEmpty]; done) | (simp [*, bne_nil_isEmpty, beq_nil_isEmpty]; done), by repeat (first | exact Drawn0.refl _ | apply Drawn0.step)⟩
        ·rw [if_neg c11] at H
         have c11b0 : decide ((bt a0 x3_2) < 33) = false := decide_eq_false c11
         clear c11
         by_cases c13 : (bt a0 x3_2) > 126
         ·rw [if_pos c13] at H
          have c13b0 : decide (126 < (bt a0 x3_2)) = true := decide_eq_true c13
          clear c13
          obtain rfl := Option.some.inj H
          have p10 : 0 ≤ (x3_2 : Int) := of_decide_eq_true as_
          have q10 : x3_2 < (a0.size : Int) := of_decide_eq_true as_
          have hx10 := bt_at a0 x3_2
          replace p10 := eq_true p10
          replace q10 := eq_true q10
          have p12 : 0 ≤ (x3_2 : Int) := of_decide_eq_true as_
          have q12 : x3_2 < (a0.size : Int) := of_decide_eq_true as_
          have hx12 := bt_at a0 x3_2
          replace p12 := eq_true p12
          replace q12 := eq_true q12
          go_wp2
          go_ret
          exact ⟨by first | rfl | (simp; done) | (simp [*]; done) | (simp [bne_nil_isEmpty, beq_nil_isEmpty]; done) | (simp [*, bne_nil_isEmpty, beq_nil_isEmpty]; done), by repeat (first | exact Drawn0.refl _ | apply Drawn0.step)⟩
         ·rw [if_neg c13] at H
          have c13b0 : decide (126 < (bt a0 x3_2)) = false := decide_eq_false c13
          clear c13
          by_cases c15 : (bt a0 x3_2) = 63
          ·rw [if_pos c15] at H
           have c15b0 : ((bt a0 x3_2) == 63) = true := beq_iff_eq.mpr c15
           have c15b1 : ((bt a0 x3_2) != 63) = false := bne_eq_false_iff_eq.mpr c15
           clear c15
           obtain rfl := Option.some.inj H
           have p10 : 0 ≤ (x3_2 : Int) := of_decide_eq_true as_
           have q10 : x3_2 < (a0.size : Int) := of_decide_eq_true as_
           have hx10 := bt_at a0 x3_2
           replace p10 := eq_true p10
           replace q10 := eq_true q10
           have p12 : 0 ≤ (x3_2 : Int) := of_decide_eq_true as_
           have q12 : x3_2 < (a0.size : Int) := of_decide_eq_true as_
           have hx12 := bt_at a0 x3_2
           replace p12 := eq_true p12
           replace q12 := eq_true q12
           have p14 : 0 ≤ (x3_2 : Int) := of_decide_eq_true as_
           have q14 : x3_2 < (a0.size : Int) := of_decide_eq_true as_
           have hx14 := bt_at a0 x3_2
           replace p14 := eq_true p14
           replace q14 := eq_true q14
           go_wp2
           go_ret
           exact ⟨by first | rfl | (simp; done) | (simp [*]; done) | (simp [bne_nil_isEmpty, beq_nil_isEmpty]; done) | (simp [*, bne_nil_isEmpty, beq_nil_isEmpty]; done), by repeat (first | exact Drawn0.refl _ | apply Drawn0.step)⟩
          ·rw [if_neg c15] at H
           have c15b0 : ((bt a0 x3_2) == 63) = false := beq_eq_false_iff_ne.mpr c15
           have c15b1 : ((bt a0 x3_2) != 63) = true := bne_iff_ne.mpr c15
           by_cases c17 : (bt a0 x3_2) = 35
           ·rw [if_pos c17] at H
            have c17b0 : ((bt a0 x3_2) == 35) = true := beq_iff_eq.mpr c17
            have c17b1 : ((bt a0 x3_2) != 35) = false := bne_eq_false_iff_eq.mpr c17
            clear c17
            obtain rfl := Option.some.inj H
            have p10 : 0 ≤ (x3_2 : Int) := of_decide_eq_true as_
            have q10 : x3_2 < (a0.size : Int) := of_decide_eq_true as_
            have hx10 := bt_at a0 x3_2
            replace p10 := eq_true p10
            replace q10 := eq_true q10
            have p12 : 0 ≤ (x3_2 : Int) := of_decide_eq_true as_
            have q12 : x3_2 < (a0.size : Int) := of_decide_eq_true as_
            have hx12 := bt_at a0 x3_2
            replace p12 := eq_true p12
            replace q12 := eq_true q12
            have p14 : 0 ≤ (x3_2 : Int) := of_decide_eq_true as_
            have q14 : x3_2 < (a0.size : Int) := of_decide_eq_true as_
            have hx14 := bt_at a0 x3_2
            replace p14 := eq_true p14
            replace q14 := eq_true q14
            have p16 : 0 ≤ (x3_2 : Int) := of_decide_eq_true as_
            have q16 : x3_2 < (a0.size : Int) := of_decide_eq_true as_
            have hx16 := bt_at a0 x3_2
            replace p16 := eq_true p16
            replace q16 := eq_true q16
            go_wp2
            go_ret
            exact ⟨by first | rfl | (simp; done) | (simp [*]; done) | (simp [bne_nil_isEmpty, beq_nil_isEmpty]; done) | (simp [*, bne_nil_isEmpty, beq_nil_isEmpty]; done), by repeat (first | exact Drawn0.refl _ | apply Drawn0.step)⟩
           ·rw [if_neg c17] at H
            have c17b0 : ((bt a0 x3_2) == 35) = false := beq_eq_false_iff_ne.mpr c17
            have c17b1 : ((bt a0 x3_2) != 35) = true := bne_iff_ne.mpr c17
            have H' := Aside0.mk H
            clear H
            have p10 : 0 ≤ (x3_2 : Int) := of_decide_eq_true as_
            have q10 : x3_2 < (a0.size : Int) := of_decide_eq_true as_
            have hx10 := bt_at a0 x3_2
            replace p10 := eq_true p10
            replace q10 := eq_true q10
            have p12 : 0 ≤ (x3_2 : Int) := of_decide_eq_true as_
            have q12 : x3_2 < (a0.size : Int) := of_decide_eq_true as_
            have hx12 := bt_at a0 x3_2
            replace p12 := eq_true p12
            replace q12 := eq_true q12
            have p14 : 0 ≤ (x3_2 : Int) := of_decide_eq_true as_
            have q14 : x3_2 < (a0.size : Int) := of_decide_eq_true as_
            have hx14 := bt_at a0 x3_2
            replace p14 := eq_true p14
            replace q14 := eq_true q14
            have p16 : 0 ≤ (x3_2 : Int) := of_decide_eq_true as_
            have q16 : x3_2 < (a0.size : Int) := of_decide_eq_true as_
            have hx16 := bt_at a0 x3_2
            replace p16 := eq_true p16
            replace q16 := eq_true q16
            go_wp2
            go_roundg k2
            case measure => have := HJ1.out; have := HK2.out; omega
            case rel => exact ⟨(wrap64 (x3_2 + 1)), sd_, H', ⟨by have := HJ1.out; have := HK2.out; omega⟩, by repeat (first | exact Drawn0.refl _ | apply Drawn0.step)⟩
       ·rw [if_neg c9] at H
        exact absurd H (by simp)
      ·rw [if_neg c8] at H
       have c8b0 : decide (x3_2 < (a0.size : Int)) = false := decide_eq_false c8
       clear c8
       obtain rfl := Option.some.inj H
       go_wp2
       go_ret
       exact ⟨by first | rfl | (simp; done) | (simp [*]; done) | (simp [bne_nil_isEmpty, beq_nil_isEmpty]; done) | (simp [*, bne_nil_isEmpty, beq_nil_isEmpty]; done), by repeat (first | exact Drawn0.refl _ | apply Drawn0.step)⟩

/-! ### tollref03_Above: function 58 -/
def tollref03_Above.f (k : Nat) (a0 : ByteArray) : Option (Bool) := (tollref03_Is.f k a0).bind fun t153 => (if t153 = true then (if (a0.size : Int) = 1 then (some true) else (if 0 ≤ (wrap64 ((a0.size : Int) - 1)) then (if (wrap64 ((a0.size : Int) - 1)) < (a0.size : Int) then (some ((bt a0 (wrap64 ((a0.size : Int) - 1))) != 47)) else (none)) else (none))) else (some false))
theorem tollref03_Above.mono : ∀ a0 k, LeO (tollref03_Above.f k a0) (tollref03_Above.f (k + 1) a0) := by
 intro a0 k
 unfold tollref03_Above.f
 repeat' first
   | (with_reducible exact tollref03_Is.mono _ _)
   | (with_reducible exact LeO.refl _)
   | (with_reducible exact LeO.none _)
   | (with_reducible refine LeO.ite ?_ ?_)
   | (with_reducible refine LeO.bind ?_ (fun _ => ?_))
   | exact tollref03_Is.mono _ _
   | exact LeO.none _
   | refine LeO.ite ?_ ?_
   | refine LeO.bind ?_ (fun _ => ?_)
set_option maxHeartbeats 8000000 in
set_option maxRecDepth 100000 in
theorem tollref03_Above.calls (k : Nat) (a0 : ByteArray) (r : Bool) (w : World) (h : tollref03_Above.f k a0 = some r) :
  Calls Tryz.prog 58 #[.string a0] w fun e w' => e = .returned (.bool r) ∧ Drawn0 w w' := by
 have H : ((tollref03_Is.f k a0).bind fun t153 => (if t153 = true then (if (a0.size : Int) = 1 then (some true) else (if 0 ≤ (wrap64 ((a0.size : Int) - 1)) then (if (wrap64 ((a0.size : Int) - 1)) < (a0.size : Int) then (some ((bt a0 (wrap64 ((a0.size : Int) - 1))) != 47)) else (none)) else (none))) else (some false))) = some r := h
 clear h
 replace H := Option.bind_eq_some_iff.mp H
 obtain ⟨t153, A20, H⟩ := H
 replace H : (if t153 = true then (if (a0.size : Int) = 1 then (some true) else (if 0 ≤ (wrap64 ((a0.size : Int) - 1)) then (if (wrap64 ((a0.size : Int) - 1)) < (a0.size : Int) then (some ((bt a0 (wrap64 ((a0.size : Int) - 1))) != 47)) else (none)) else (none))) else (some false)) = some r := H
 have A2 := Aside0.mk A20
 clear A20
 by_cases c3 : t153 = true
 ·subst c3
  have H1 : (if (a0.size : Int) = 1 then (some true) else (if 0 ≤ (wrap64 ((a0.size : Int) - 1)) then (if (wrap64 ((a0.size : Int) - 1)) < (a0.size : Int) then (some ((bt a0 (wrap64 ((a0.size : Int) - 1))) != 47)) else (none)) else (none))) = some r := by rw [if_pos rfl] at H; exact H
  clear H
  have H := H1
  clear H1
  by_cases c4 : (a0.size : Int) = 1
  ·rw [if_pos c4] at H
   have c4b0 : ((a0.size : Int) == 1) = true := beq_iff_eq.mpr c4
   have c4b1 : ((a0.size : Int) != 1) = false := bne_eq_false_iff_eq.mpr c4
   clear c4
   obtain rfl := Option.some.inj H
   go_enter Tryz.func58, Tryz.ntmps58
   go_wp2_with (first | ((with_reducible refine gate_callee (f := 57) rfl ?_); refine goesL_ (some 4) rfl rfl Tryz.func57 kr_ rfl #[.string a0] rfl rl_ ?_; (with_reducible refine (tollref03_Is.calls k a0 true _ A2.out).mono ?_); rintro e w' ⟨rfl, ⟨nd, rfl⟩⟩; refine ⟨_, rfl, ?_⟩))
   go_ret
   exact ⟨by first | rfl | (simp; done) | (simp [*]; done) | (simp [bne_nil_isEmpty, beq_nil_isEmpty]; done) | (simp [*, bne_nil_isEmpty, beq_nil_isEmpty]; done), by repeat (first | exact Drawn0.refl _ | apply Drawn0.step)⟩
  ·rw [if_neg c4] at H
   have c4b0 : ((a0.size : Int) == 1) = false := beq_eq_false_iff_ne.mpr c4
   have c4b1 : ((a0.size : Int) != 1) = true := bne_iff_ne.mpr c4
   obtain ⟨ji5, hji5⟩ : ∃ j_ : Int, (wrap64 ((a0.size : Int) - 1)) = j_ := ⟨_, rfl⟩
   replace H : (if 0 ≤ (ji5) then (if (ji5) < (a0.size : Int) then (some ((bt a0 (ji5)) != 47)) else (none)) else (none)) = some r := by first | (rw [hji5] at H; exact H) | (simp only [hji5] at H ⊢; exact H)
   (try rw [hji5] at A2)
   have hji5w : (IntKind.i64.wrap ((a0.size : Int) - 1)) = ji5 := (i64_w _).trans hji5
   by_cases c6 : 0 ≤ (ji5)
   ·rw [if_pos c6] at H
    have c6b0 : decide (0 ≤ (ji5)) = true := decide_eq_true c6
    clear c6
    by_cases c7 : (ji5) < (a0.size : Int)
    ·rw [if_pos c7] at H
     have c7b0 : decide ((ji5) < (a0.size : Int)) = true := decide_eq_true c7
     clear c7
     obtain rfl := Option.some.inj H
     go_enter Tryz.func58, Tryz.ntmps58
     go_wp2_with (first | ((with_reducible refine gate_callee (f := 57) rfl ?_); refine goesL_ (some 4) rfl rfl Tryz.func57 kr_ rfl #[.string a0] rfl rl_ ?_; (with_reducible refine (tollref03_Is.calls k a0 true _ A2.out).mono ?_); rintro e w' ⟨rfl, ⟨nd, rfl⟩⟩; refine ⟨_, rfl, ?_⟩; have p8 : 0 ≤ ((ji5) : Int) := of_decide_eq_true as_; have q8 : (ji5) < (a0.size : Int) := of_decide_eq_true as_; have hx8 := bt_at a0 (ji5); replace p8 := eq_true p8; replace q8 := eq_true q8))
     go_ret
     exact ⟨by first | rfl | (simp; done) | (simp only [← hji5] <;> (first | rfl | simp)) | (simp [*]; done), by repeat (first | exact Drawn0.refl _ | apply Drawn0.step)⟩
    ·rw [if_neg c7] at H
     exact absurd H (by simp)
   ·rw [if_neg c6] at H
    exact absurd H (by simp)
 ·replace c3 := Bool.eq_false_iff.mpr c3
  subst c3
  have H1 : (some false) = some r := by rw [if_neg (show ¬ (false = true) by decide)] at H; exact H
  clear H
  have H := H1
  clear H1
  obtain rfl := Option.some.inj H
  go_enter Tryz.func58, Tryz.ntmps58
  go_wp2_with (first | ((with_reducible refine gate_callee (f := 57) rfl ?_); refine goesL_ (some 4) rfl rfl Tryz.func57 kr_ rfl #[.string a0] rfl rl_ ?_; (with_reducible refine (tollref03_Is.calls k a0 false _ A2.out).mono ?_); rintro e w' ⟨rfl, ⟨nd, rfl⟩⟩; refine ⟨_, rfl, ?_⟩))
  go_ret
  exact ⟨by first | rfl | (simp; done) | (simp [*]; done) | (simp [bne_nil_isEmpty, beq_nil_isEmpty]; done) | (simp [*, bne_nil_isEmpty, beq_nil_isEmpty]; done), by repeat (first | exact Drawn0.refl _ | apply Drawn0.step)⟩

/-! ### tollref07_turns: function 33 -/
def tollref07_turns.j0 : Nat → Bool → Int → ByteArray → ByteArray → ByteArray → Int → ByteArray → Bool → Int → Option (Bool)
 | 0, _, _, _, _, _, _, _, _, _ => none
 | k + 1, x11, x155000, x155001, x155002, x155003, x155004, x155005, x155006, x155007 => if x11 = true then (some false) else (if x155005.toList = ([] : List UInt8) then (some (!x155006)) else ((tollref03_Is.f k x155005).bind fun t156 => (if t156 = true then (if x155006 = true then (some true) else ((tollref03_Above.f k x155005).bind fun t157 => (some t157))) else (some false))))
def tollref07_turns.f (k : Nat) (a0_0 : Int) (a0_1 : ByteArray) (a0_2 : ByteArray) (a0_3 : ByteArray) (a0_4 : Int) (a0_5 : ByteArray) (a0_6 : Bool) (a0_7 : Int) : Option (Bool) := if a0_3.toList = ([] : List UInt8) then (tollref07_turns.j0 k false a0_0 a0_1 a0_2 a0_3 a0_4 a0_5 a0_6 a0_7) else ((tollref01_Name.f k a0_3).bind fun t155 => (tollref07_turns.j0 k (!t155) a0_0 a0_1 a0_2 a0_3 a0_4 a0_5 a0_6 a0_7))
theorem tollref07_turns.mono_l : ∀ k, (∀ y0 y1 y2 y3 y4 y5 y6 y7 y8, LeO (tollref07_turns.j0 k y0 y1 y2 y3 y4 y5 y6 y7 y8) (tollref07_turns.j0 (k + 1) y0 y1 y2 y3 y4 y5 y6 y7 y8))
 | 0 => fun _ _ _ _ _ _ _ _ _ r h => by simp [tollref07_turns.j0] at h
 | k + 1 => by
  have ih0 := tollref07_turns.mono_l k
  ·intro y0 y1 y2 y3 y4 y5 y6 y7 y8
   unfold tollref07_turns.j0
   repeat' first
   | (with_reducible exact ih0 _ _ _ _ _ _ _ _ _)
   | (with_reducible exact tollref01_Name.mono _ _)
   | (with_reducible exact tollref03_Above.mono _ _)
   | (with_reducible exact tollref03_Is.mono _ _)
   | (with_reducible exact LeO.refl _)
   | (with_reducible exact LeO.none _)
   | (with_reducible refine LeO.ite ?_ ?_)
   | (with_reducible refine LeO.bind ?_ (fun _ => ?_))
   | exact ih0 _ _ _ _ _ _ _ _ _
   | exact tollref01_Name.mono _ _
   | exact tollref03_Above.mono _ _
   | exact tollref03_Is.mono _ _
   | exact LeO.none _
   | refine LeO.ite ?_ ?_
   | refine LeO.bind ?_ (fun _ => ?_)
theorem tollref07_turns.mono : ∀ a0 a1 a2 a3 a4 a5 a6 a7 k, LeO (tollref07_turns.f k a0 a1 a2 a3 a4 a5 a6 a7) (tollref07_turns.f (k + 1) a0 a1 a2 a3 a4 a5 a6 a7) := by
 intro a0 a1 a2 a3 a4 a5 a6 a7 k
 have ih0 := tollref07_turns.mono_l k
 unfold tollref07_turns.f
 repeat' first
   | (with_reducible exact ih0 _ _ _ _ _ _ _ _ _)
   | (with_reducible exact tollref01_Name.mono _ _)
   | (with_reducible exact tollref03_Above.mono _ _)
   | (with_reducible exact tollref03_Is.mono _ _)
   | (with_reducible exact LeO.refl _)
   | (with_reducible exact LeO.none _)
   | (with_reducible refine LeO.ite ?_ ?_)
   | (with_reducible refine LeO.bind ?_ (fun _ => ?_))
   | exact ih0 _ _ _ _ _ _ _ _ _
   | exact tollref01_Name.mono _ _
   | exact tollref03_Above.mono _ _
   | exact tollref03_Is.mono _ _
   | exact LeO.none _
   | refine LeO.ite ?_ ?_
   | refine LeO.bind ?_ (fun _ => ?_)
set_option maxHeartbeats 8000000 in
set_option maxRecDepth 100000 in
theorem tollref07_turns.calls (k : Nat) (a0_0 : Int) (a0_1 : ByteArray) (a0_2 : ByteArray) (a0_3 : ByteArray) (a0_4 : Int) (a0_5 : ByteArray) (a0_6 : Bool) (a0_7 : Int) (r : Bool) (w : World) (h : tollref07_turns.f k a0_0 a0_1 a0_2 a0_3 a0_4 a0_5 a0_6 a0_7 = some r) :
  Calls Tryz.prog 33 #[.agg #[.int .i64 a0_0, .string a0_1, .string a0_2, .string a0_3, .int .i64 a0_4, .string a0_5, .bool a0_6, .int .i64 a0_7]] w fun e w' => e = .returned (.bool r) ∧ Below w.heap.size w w' := by
 have hu26 := Tryz.underlying26
 have HB := am_ (Below.refl w.heap.size w)
 have H : (if a0_3.toList = ([] : List UInt8) then (tollref07_turns.j0 k false a0_0 a0_1 a0_2 a0_3 a0_4 a0_5 a0_6 a0_7) else ((tollref01_Name.f k a0_3).bind fun t155 => (tollref07_turns.j0 k (!t155) a0_0 a0_1 a0_2 a0_3 a0_4 a0_5 a0_6 a0_7))) = some r := h
 clear h
 have HC2 := Aside0.mk H
 clear H
 go_enter Tryz.func33, Tryz.ntmps33
 go_upto_region 1 with (first | ((with_reducible refine gate_dst (N := 1) rfl ?_); refine box_event ?hg (N := 1) ?hd (cs := #[.int .i64 a0_0, .string a0_1, .string a0_2, .string a0_3, .int .i64 a0_4, .string a0_5, .bool a0_6, .int .i64 a0_7]) (t := 26) ?hr ?_; (case hd => rfl); (case hg => rfl); (case hr => first | (go_simp; done) | (go_simp; rfl)); intro gb154 hg w3 hbox hb; have n0_ := am_ (below_step (bel_ HB.out) hb); have n1_ := am_ (hbox); have n2_ := am_ ((by rw [hg]; exact (below_size (bel_ HB.out)) : w.heap.size ≤ gb154)); have n3_ := am_ ((by rw [hg]; exact (below_size (bel_ HB.out)) : w.heap.size ≤ gb154)); clear HB; have HB := n0_; have BK154 := n1_; have GW154 := n2_; have GE154 := n3_; clear n0_ n1_ n2_ n3_ hb hbox hg))
 (try simp only [Act.put, List.setIfInBounds_toArray, List.set_cons_zero, List.set_cons_succ])
 go_cut [11] (fun v11 wc => ∃ (kq : Nat) (x11_1 : Bool), v11 = .bool x11_1 ∧ Aside0 (tollref07_turns.j0 kq x11_1 a0_0 a0_1 a0_2 a0_3 a0_4 a0_5 a0_6 a0_7 = some r) ∧ Aside0 (kq ≤ k) ∧ Aside0 (wc.heap[gb154]? = some (.cells #[.int .i64 a0_0, .string a0_1, .string a0_2, .string a0_3, .int .i64 a0_4, .string a0_5, .bool a0_6, .int .i64 a0_7] 26 (0, 0))) ∧ Aside0 (Below w.heap.size w wc))
 case first =>
  have H := HC2.out
  clear HC2
  by_cases c4 : a0_3.toList = ([] : List UInt8)
  ·rw [if_pos c4] at H
   have c4b0 : (a0_3.toList == ([] : List UInt8)) = true := beq_iff_eq.mpr c4
   have c4b1 : (a0_3.toList != ([] : List UInt8)) = false := bne_eq_false_iff_eq.mpr c4
   clear c4
   (first | rw [c4b0] | rw [c4b1] | rw [c4b2] | (simp only [i64_w, i32_w]; rw [c4b0]) | skip)
   have H' := Aside0.mk H
   clear H
   obtain ⟨hcz5_0, hcz5_1, hcz5_2, hcz5_3, hcz5_4, hcz5_5, hcz5_6, hcz5_7, hfz5_0, hfz5_1, hfz5_2, hfz5_3, hfz5_4, hfz5_5, hfz5_6, hfz5_7⟩ := blk8 BK154.out
   go_wp2
   go_meet
   case rel => exact ⟨_, (false), sd_, H', ⟨by first | omega | exact Nat.le_refl _⟩, ⟨by (with_reducible repeat (first | refine blk_drewN ?_ _ | refine blk_drew ?_ | refine blk_alloc ?_ _)); exact BK154.out⟩, ⟨bel_ HB.out⟩⟩
  ·rw [if_neg c4] at H
   have c4b0 : (a0_3.toList == ([] : List UInt8)) = false := beq_eq_false_iff_ne.mpr c4
   have c4b1 : (a0_3.toList != ([] : List UInt8)) = true := bne_iff_ne.mpr c4
   (first | rw [c4b0] | rw [c4b1] | rw [c4b2] | (simp only [i64_w, i32_w]; rw [c4b0]) | skip)
   replace H := Option.bind_eq_some_iff.mp H
   obtain ⟨t155, A60, H⟩ := H
   replace H : (tollref07_turns.j0 k (!t155) a0_0 a0_1 a0_2 a0_3 a0_4 a0_5 a0_6 a0_7) = some r := H
   have A6 := Aside0.mk A60
   clear A60
   have H' := Aside0.mk H
   clear H
   obtain ⟨hcz7_0, hcz7_1, hcz7_2, hcz7_3, hcz7_4, hcz7_5, hcz7_6, hcz7_7, hfz7_0, hfz7_1, hfz7_2, hfz7_3, hfz7_4, hfz7_5, hfz7_6, hfz7_7⟩ := blk8 BK154.out
   go_wp2_with (first | (go_at_call 56; (with_reducible refine (tollref01_Name.calls k a0_3 t155 _ A6.out).mono ?_); rintro e w8 ⟨rfl, hb⟩; have n0_ := am_ (blk_below (g := gb154) (o := .cells #[.int .i64 a0_0, .string a0_1, .string a0_2, .string a0_3, .int .i64 a0_4, .string a0_5, .bool a0_6, .int .i64 a0_7] 26 (0, 0)) (blk_ BK154.out) hb); have n1_ := am_ (below_step (bel_ HB.out) hb); clear BK154 HB; have BK154 := n0_; have HB := n1_; clear n0_ n1_; (try clear hb); (try clear hb2); (try clear hk); (try clear hi)))
   go_meet
   case rel => exact ⟨_, (!t155), sd_, H', ⟨by first | omega | exact Nat.le_refl _⟩, ⟨by (with_reducible repeat (first | refine blk_drewN ?_ _ | refine blk_drew ?_ | refine blk_alloc ?_ _)); exact BK154.out⟩, ⟨bel_ HB.out⟩⟩
 case rest =>
  clear HC2
  try clear p2
  try clear c3
  try clear c4
  try clear c4b0
  try clear c4b1
  try clear c4b2
  try clear hcz5_0
  try clear hcz5_1
  try clear hcz5_2
  try clear hcz5_3
  try clear hcz5_4
  try clear hcz5_5
  try clear hcz5_6
  try clear hcz5_7
  try clear hcz7_0
  try clear hcz7_1
  try clear hcz7_2
  try clear hcz7_3
  try clear hcz7_4
  try clear hcz7_5
  try clear hcz7_6
  try clear hcz7_7
  try clear hfz5_0
  try clear hfz5_1
  try clear hfz5_2
  try clear hfz5_3
  try clear hfz5_4
  try clear hfz5_5
  try clear hfz5_6
  try clear hfz5_7
  try clear hfz7_0
  try clear hfz7_1
  try clear hfz7_2
  try clear hfz7_3
  try clear hfz7_4
  try clear hfz7_5
  try clear hfz7_6
  try clear hfz7_7
  obtain ⟨kq, x11_1, rfl, HA, HJ1, BK154, HB⟩ := hcut
  cases kq with
  | zero => exact absurd HA.out (by simp [tollref07_turns.j0])
  | succ kj1 =>
   have H := HA.out
   clear HA
   simp only [tollref07_turns.j0] at H
   by_cases c9 : x11_1 = true
   ·subst c9
    have H1 : (some false) = some r := by rw [if_pos rfl] at H; exact H
    clear H
    have H := H1
    clear H1
    obtain rfl := Option.some.inj H
    go_wp2
    go_ret
    exact ⟨fi_, bel_ HB.out⟩
   ·replace c9 := Bool.eq_false_iff.mpr c9
    subst c9
    have H1 : (if a0_5.toList = ([] : List UInt8) then (some (!a0_6)) else ((tollref03_Is.f kj1 a0_5).bind fun t156 => (if t156 = true then (if a0_6 = true then (some true) else ((tollref03_Above.f kj1 a0_5).bind fun t157 => (some t157))) else (some false)))) = some r := by rw [if_neg (show ¬ (false = true) by decide)] at H; exact H
    clear H
    have H := H1
    clear H1
    by_cases c10 : a0_5.toList = ([] : List UInt8)
    ·rw [if_pos c10] at H
     have c10b0 : (a0_5.toList == ([] : List UInt8)) = true := beq_iff_eq.mpr c10
     have c10b1 : (a0_5.toList != ([] : List UInt8)) = false := bne_eq_false_iff_eq.mpr c10
     clear c10
     obtain rfl := Option.some.inj H
     obtain ⟨hcz11_0, hcz11_1, hcz11_2, hcz11_3, hcz11_4, hcz11_5, hcz11_6, hcz11_7, hfz11_0, hfz11_1, hfz11_2, hfz11_3, hfz11_4, hfz11_5, hfz11_6, hfz11_7⟩ := blk8 BK154.out
     go_wp2
     go_ret
     exact ⟨fi_, bel_ HB.out⟩
    ·rw [if_neg c10] at H
     have c10b0 : (a0_5.toList == ([] : List UInt8)) = false := beq_eq_false_iff_ne.mpr c10
     have c10b1 : (a0_5.toList != ([] : List UInt8)) = true := bne_iff_ne.mpr c10
     replace H := Option.bind_eq_some_iff.mp H
     obtain ⟨t156, A120, H⟩ := H
     replace H : (if t156 = true then (if a0_6 = true then (some true) else ((tollref03_Above.f kj1 a0_5).bind fun t157 => (some t157))) else (some false)) = some r := H
     have A12 := Aside0.mk A120
     clear A120
     by_cases c13 : t156 = true
     ·subst c13
      have H1 : (if a0_6 = true then (some true) else ((tollref03_Above.f kj1 a0_5).bind fun t157 => (some t157))) = some r := by rw [if_pos rfl] at H; exact H
      clear H
      have H := H1
      clear H1
      by_cases c14 : a0_6 = true
      ·subst c14
       have H1 : (some true) = some r := by rw [if_pos rfl] at H; exact H
       clear H
       have H := H1
       clear H1
       obtain rfl := Option.some.inj H
       obtain ⟨hcz15_0, hcz15_1, hcz15_2, hcz15_3, hcz15_4, hcz15_5, hcz15_6, hcz15_7, hfz15_0, hfz15_1, hfz15_2, hfz15_3, hfz15_4, hfz15_5, hfz15_6, hfz15_7⟩ := blk8 BK154.out
       go_wp2_with (first | ((with_reducible refine gate_callee (f := 57) rfl ?_); refine goesL_ (some 20) rfl rfl Tryz.func57 kr_ rfl #[.string a0_5] rfl rl_ ?_; (with_reducible refine (tollref03_Is.calls kj1 a0_5 true _ A12.out).mono ?_); rintro e w' ⟨rfl, ⟨nd, rfl⟩⟩; refine ⟨_, rfl, ?_⟩))
       go_ret
       exact ⟨fi_, bel_ HB.out⟩
      ·replace c14 := Bool.eq_false_iff.mpr c14
       subst c14
       have H1 : ((tollref03_Above.f kj1 a0_5).bind fun t157 => (some t157)) = some r := by rw [if_neg (show ¬ (false = true) by decide)] at H; exact H
       clear H
       have H := H1
       clear H1
       replace H := Option.bind_eq_some_iff.mp H
       obtain ⟨t157, A160, H⟩ := H
       replace H : (some t157) = some r := H
       have A16 := Aside0.mk A160
       clear A160
       obtain rfl := Option.some.inj H
       obtain ⟨hcz17_0, hcz17_1, hcz17_2, hcz17_3, hcz17_4, hcz17_5, hcz17_6, hcz17_7, hfz17_0, hfz17_1, hfz17_2, hfz17_3, hfz17_4, hfz17_5, hfz17_6, hfz17_7⟩ := blk8 BK154.out
       go_wp2_with (first | ((with_reducible refine gate_callee (f := 57) rfl ?_); refine goesL_ (some 20) rfl rfl Tryz.func57 kr_ rfl #[.string a0_5] rfl rl_ ?_; (with_reducible refine (tollref03_Is.calls kj1 a0_5 true _ A12.out).mono ?_); rintro e w' ⟨rfl, ⟨nd, rfl⟩⟩; refine ⟨_, rfl, ?_⟩) | (go_at_call 58; (with_reducible refine (tollref03_Above.calls kj1 a0_5 t157 _ A16.out).mono ?_); rintro e w' ⟨rfl, ⟨nd, rfl⟩⟩))
       go_ret
       exact ⟨fi_, bel_ HB.out⟩
     ·replace c13 := Bool.eq_false_iff.mpr c13
      subst c13
      have H1 : (some false) = some r := by rw [if_neg (show ¬ (false = true) by decide)] at H; exact H
      clear H
      have H := H1
      clear H1
      obtain rfl := Option.some.inj H
      obtain ⟨hcz18_0, hcz18_1, hcz18_2, hcz18_3, hcz18_4, hcz18_5, hcz18_6, hcz18_7, hfz18_0, hfz18_1, hfz18_2, hfz18_3, hfz18_4, hfz18_5, hfz18_6, hfz18_7⟩ := blk8 BK154.out
      go_wp2_with (first | ((with_reducible refine gate_callee (f := 57) rfl ?_); refine goesL_ (some 20) rfl rfl Tryz.func57 kr_ rfl #[.string a0_5] rfl rl_ ?_; (with_reducible refine (tollref03_Is.calls kj1 a0_5 false _ A12.out).mono ?_); rintro e w' ⟨rfl, ⟨nd, rfl⟩⟩; refine ⟨_, rfl, ?_⟩))
      go_ret
      exact ⟨fi_, bel_ HB.out⟩

/-! ### tollref07_May: function 11 -/
mutual
def tollref07_May.j0 : Nat → Bool → Int → ByteArray → ByteArray → ByteArray → Int → ByteArray → Bool → Int → Option (Bool)
 | 0, _, _, _, _, _, _, _, _, _ => none
 | k + 1, x3, x159000, x159001, x159002, x159003, x159004, x159005, x159006, x159007 => if x159000 = 1 then (tollref07_May.j1 k x3 x159000 (x159000 == 1) x159000 x159001 x159002 x159003 x159004 x159005 x159006 x159007) else (tollref07_May.j1 k x3 x159000 (x159000 == 2) x159000 x159001 x159002 x159003 x159004 x159005 x159006 x159007)
def tollref07_May.j1 : Nat → Bool → Int → Bool → Int → ByteArray → ByteArray → ByteArray → Int → ByteArray → Bool → Int → Option (Bool)
 | 0, _, _, _, _, _, _, _, _, _, _, _ => none
 | k + 1, x3, x28, x29, x159000, x159001, x159002, x159003, x159004, x159005, x159006, x159007 => if x29 = true then (if x3 = true then ((tollref05_Token.f k x159001).bind fun t159 => (if t159 = true then ((tollref05_Value.f k x159002).bind fun t160 => (some t160)) else (some false))) else (some false)) else (if x28 = 3 then (if x3 = true then ((tollref05_Token.f k x159001).bind fun t161 => (if t161 = true then (some (x159002.toList == ([] : List UInt8))) else (some false))) else (some false)) else (if x28 = 4 then (if x159001.toList = ([] : List UInt8) then (if x159002.toList = ([] : List UInt8) then ((tollref07_turns.f k x159000 x159001 x159002 x159003 x159004 x159005 x159006 x159007).bind fun t162 => (if t162 = true then (if 0 ≤ x159004 then (if x159004 ≤ 65535 then (if x159007 = 301 then (some true) else (some (x159007 == 302))) else (some false)) else (some false)) else (some false))) else (some false)) else (some false)) else (if x28 = 5 then (if x159001.toList = ([] : List UInt8) then (if x159002.toList = ([] : List UInt8) then (if x159004 = 0 then (if x159007 = 0 then ((tollref07_turns.f k x159000 x159001 x159002 x159003 x159004 x159005 x159006 x159007).bind fun t163 => (if t163 = true then (if x159003.size + x159005.size ≤ 9223372036854775807 then (some ((x159003 ++ x159005).toList != ([] : List UInt8))) else (none)) else (some false))) else (some false)) else (some false)) else (some false)) else (some false)) else (some false))))
end
def tollref07_May.f (k : Nat) (a0_0 : Int) (a0_1 : ByteArray) (a0_2 : ByteArray) (a0_3 : ByteArray) (a0_4 : Int) (a0_5 : ByteArray) (a0_6 : Bool) (a0_7 : Int) : Option (Bool) := if a0_3.toList = ([] : List UInt8) then (if a0_4 = 0 then (if a0_5.toList = ([] : List UInt8) then (if a0_6 = true then (tollref07_May.j0 k false a0_0 a0_1 a0_2 a0_3 a0_4 a0_5 a0_6 a0_7) else (tollref07_May.j0 k (a0_7 == 0) a0_0 a0_1 a0_2 a0_3 a0_4 a0_5 a0_6 a0_7)) else (tollref07_May.j0 k false a0_0 a0_1 a0_2 a0_3 a0_4 a0_5 a0_6 a0_7)) else (tollref07_May.j0 k false a0_0 a0_1 a0_2 a0_3 a0_4 a0_5 a0_6 a0_7)) else (tollref07_May.j0 k false a0_0 a0_1 a0_2 a0_3 a0_4 a0_5 a0_6 a0_7)
theorem tollref07_May.mono_l : ∀ k, (∀ y0 y1 y2 y3 y4 y5 y6 y7 y8, LeO (tollref07_May.j0 k y0 y1 y2 y3 y4 y5 y6 y7 y8) (tollref07_May.j0 (k + 1) y0 y1 y2 y3 y4 y5 y6 y7 y8)) ∧ (∀ y0 y1 y2 y3 y4 y5 y6 y7 y8 y9 y10, LeO (tollref07_May.j1 k y0 y1 y2 y3 y4 y5 y6 y7 y8 y9 y10) (tollref07_May.j1 (k + 1) y0 y1 y2 y3 y4 y5 y6 y7 y8 y9 y10))
 | 0 => ⟨fun _ _ _ _ _ _ _ _ _ r h => by simp [tollref07_May.j0] at h, fun _ _ _ _ _ _ _ _ _ _ _ r h => by simp [tollref07_May.j1] at h⟩
 | k + 1 => by
  obtain ⟨ih0, ih1⟩ := tollref07_May.mono_l k
  refine ⟨?_, ?_⟩
  ·intro y0 y1 y2 y3 y4 y5 y6 y7 y8
   unfold tollref07_May.j0
   repeat' first
   | (with_reducible exact ih0 _ _ _ _ _ _ _ _ _)
   | (with_reducible exact ih1 _ _ _ _ _ _ _ _ _ _ _)
   | (with_reducible exact tollref05_Token.mono _ _)
   | (with_reducible exact tollref05_Value.mono _ _)
   | (with_reducible exact tollref07_turns.mono _ _ _ _ _ _ _ _ _)
   | (with_reducible exact LeO.refl _)
   | (with_reducible exact LeO.none _)
   | (with_reducible refine LeO.ite ?_ ?_)
   | (with_reducible refine LeO.bind ?_ (fun _ => ?_))
   | exact ih0 _ _ _ _ _ _ _ _ _
   | exact ih1 _ _ _ _ _ _ _ _ _ _ _
   | exact tollref05_Token.mono _ _
   | exact tollref05_Value.mono _ _
   | exact tollref07_turns.mono _ _ _ _ _ _ _ _ _
   | exact LeO.none _
   | refine LeO.ite ?_ ?_
   | refine LeO.bind ?_ (fun _ => ?_)
  ·intro y0 y1 y2 y3 y4 y5 y6 y7 y8 y9 y10
   unfold tollref07_May.j1
   repeat' first
   | (with_reducible exact ih0 _ _ _ _ _ _ _ _ _)
   | (with_reducible exact ih1 _ _ _ _ _ _ _ _ _ _ _)
   | (with_reducible exact tollref05_Token.mono _ _)
   | (with_reducible exact tollref05_Value.mono _ _)
   | (with_reducible exact tollref07_turns.mono _ _ _ _ _ _ _ _ _)
   | (with_reducible exact LeO.refl _)
   | (with_reducible exact LeO.none _)
   | (with_reducible refine LeO.ite ?_ ?_)
   | (with_reducible refine LeO.bind ?_ (fun _ => ?_))
   | exact ih0 _ _ _ _ _ _ _ _ _
   | exact ih1 _ _ _ _ _ _ _ _ _ _ _
   | exact tollref05_Token.mono _ _
   | exact tollref05_Value.mono _ _
   | exact tollref07_turns.mono _ _ _ _ _ _ _ _ _
   | exact LeO.none _
   | refine LeO.ite ?_ ?_
   | refine LeO.bind ?_ (fun _ => ?_)
theorem tollref07_May.mono : ∀ a0 a1 a2 a3 a4 a5 a6 a7 k, LeO (tollref07_May.f k a0 a1 a2 a3 a4 a5 a6 a7) (tollref07_May.f (k + 1) a0 a1 a2 a3 a4 a5 a6 a7) := by
 intro a0 a1 a2 a3 a4 a5 a6 a7 k
 obtain ⟨ih0, ih1⟩ := tollref07_May.mono_l k
 unfold tollref07_May.f
 repeat' first
   | (with_reducible exact ih0 _ _ _ _ _ _ _ _ _)
   | (with_reducible exact ih1 _ _ _ _ _ _ _ _ _ _ _)
   | (with_reducible exact tollref05_Token.mono _ _)
   | (with_reducible exact tollref05_Value.mono _ _)
   | (with_reducible exact tollref07_turns.mono _ _ _ _ _ _ _ _ _)
   | (with_reducible exact LeO.refl _)
   | (with_reducible exact LeO.none _)
   | (with_reducible refine LeO.ite ?_ ?_)
   | (with_reducible refine LeO.bind ?_ (fun _ => ?_))
   | exact ih0 _ _ _ _ _ _ _ _ _
   | exact ih1 _ _ _ _ _ _ _ _ _ _ _
   | exact tollref05_Token.mono _ _
   | exact tollref05_Value.mono _ _
   | exact tollref07_turns.mono _ _ _ _ _ _ _ _ _
   | exact LeO.none _
   | refine LeO.ite ?_ ?_
   | refine LeO.bind ?_ (fun _ => ?_)
set_option maxHeartbeats 6000000 in
set_option maxRecDepth 100000 in
theorem tollref07_May.calls (k : Nat) (a0_0 : Int) (a0_1 : ByteArray) (a0_2 : ByteArray) (a0_3 : ByteArray) (a0_4 : Int) (a0_5 : ByteArray) (a0_6 : Bool) (a0_7 : Int) (r : Bool) (w : World) (h : tollref07_May.f k a0_0 a0_1 a0_2 a0_3 a0_4 a0_5 a0_6 a0_7 = some r) :
  Calls Tryz.prog 11 #[.agg #[.int .i64 a0_0, .string a0_1, .string a0_2, .string a0_3, .int .i64 a0_4, .string a0_5, .bool a0_6, .int .i64 a0_7]] w fun e w' => e = .returned (.bool r) ∧ Below w.heap.size w w' := by
 have hu26 := Tryz.underlying26
 have HB := am_ (Below.refl w.heap.size w)
 have H : (if a0_3.toList = ([] : List UInt8) then (if a0_4 = 0 then (if a0_5.toList = ([] : List UInt8) then (if a0_6 = true then (tollref07_May.j0 k false a0_0 a0_1 a0_2 a0_3 a0_4 a0_5 a0_6 a0_7) else (tollref07_May.j0 k (a0_7 == 0) a0_0 a0_1 a0_2 a0_3 a0_4 a0_5 a0_6 a0_7)) else (tollref07_May.j0 k false a0_0 a0_1 a0_2 a0_3 a0_4 a0_5 a0_6 a0_7)) else (tollref07_May.j0 k false a0_0 a0_1 a0_2 a0_3 a0_4 a0_5 a0_6 a0_7)) else (tollref07_May.j0 k false a0_0 a0_1 a0_2 a0_3 a0_4 a0_5 a0_6 a0_7)) = some r := h
 clear h
 have HC2 := Aside0.mk H
 clear H
 go_enter Tryz.func11, Tryz.ntmps11
 go_upto_region 1 with (first | ((with_reducible refine gate_dst (N := 1) rfl ?_); refine box_event ?hg (N := 1) ?hd (cs := #[.int .i64 a0_0, .string a0_1, .string a0_2, .string a0_3, .int .i64 a0_4, .string a0_5, .bool a0_6, .int .i64 a0_7]) (t := 26) ?hr ?_; (case hd => rfl); (case hg => rfl); (case hr => first | (go_simp; done) | (go_simp; rfl)); intro gb158 hg w3 hbox hb; have n0_ := am_ (below_step (bel_ HB.out) hb); have n1_ := am_ (hbox); have n2_ := am_ ((by rw [hg]; exact (below_size (bel_ HB.out)) : w.heap.size ≤ gb158)); have n3_ := am_ ((by rw [hg]; exact (below_size (bel_ HB.out)) : w.heap.size ≤ gb158)); clear HB; have HB := n0_; have BK158 := n1_; have GW158 := n2_; have GE158 := n3_; clear n0_ n1_ n2_ n3_ hb hbox hg))
 (try simp only [Act.put, List.setIfInBounds_toArray, List.set_cons_zero, List.set_cons_succ])
 go_cut [3] (fun v3 wc => ∃ (kq : Nat) (x3_1 : Bool), v3 = .bool x3_1 ∧ Aside0 (tollref07_May.j0 kq x3_1 a0_0 a0_1 a0_2 a0_3 a0_4 a0_5 a0_6 a0_7 = some r) ∧ Aside0 (kq ≤ k) ∧ Aside0 (wc.heap[gb158]? = some (.cells #[.int .i64 a0_0, .string a0_1, .string a0_2, .string a0_3, .int .i64 a0_4, .string a0_5, .bool a0_6, .int .i64 a0_7] 26 (0, 0))) ∧ Aside0 (Below w.heap.size w wc))
 case first =>
  have H := HC2.out
  clear HC2
  by_cases c4 : a0_3.toList = ([] : List UInt8)
  ·rw [if_pos c4] at H
   have c4b0 : (a0_3.toList == ([] : List UInt8)) = true := beq_iff_eq.mpr c4
   have c4b1 : (a0_3.toList != ([] : List UInt8)) = false := bne_eq_false_iff_eq.mpr c4
   clear c4
   (first | rw [c4b0] | rw [c4b1] | rw [c4b2] | (simp only [i64_w, i32_w]; rw [c4b0]) | skip)
   by_cases c5 : a0_4 = 0
   ·rw [if_pos c5] at H
    have c5b0 : (a0_4 == 0) = true := beq_iff_eq.mpr c5
    have c5b1 : (a0_4 != 0) = false := bne_eq_false_iff_eq.mpr c5
    clear c5
    by_cases c6 : a0_5.toList = ([] : List UInt8)
    ·rw [if_pos c6] at H
     have c6b0 : (a0_5.toList == ([] : List UInt8)) = true := beq_iff_eq.mpr c6
     have c6b1 : (a0_5.toList != ([] : List UInt8)) = false := bne_eq_false_iff_eq.mpr c6
     clear c6
     by_cases c7 : a0_6 = true
     ·subst c7
      have H1 : (tollref07_May.j0 k false a0_0 a0_1 a0_2 a0_3 a0_4 a0_5 true a0_7) = some r := by rw [if_pos rfl] at H; exact H
      clear H
      have H := H1
      clear H1
      have H' := Aside0.mk H
      clear H
      obtain ⟨hcz8_0, hcz8_1, hcz8_2, hcz8_3, hcz8_4, hcz8_5, hcz8_6, hcz8_7, hfz8_0, hfz8_1, hfz8_2, hfz8_3, hfz8_4, hfz8_5, hfz8_6, hfz8_7⟩ := blk8 BK158.out
      go_wp2
      go_meet
      case rel => exact ⟨_, (false), sd_, H', ⟨by first | omega | exact Nat.le_refl _⟩, ⟨by (with_reducible repeat (first | refine blk_drewN ?_ _ | refine blk_drew ?_ | refine blk_alloc ?_ _)); exact BK158.out⟩, ⟨bel_ HB.out⟩⟩
     ·replace c7 := Bool.eq_false_iff.mpr c7
      subst c7
      have H1 : (tollref07_May.j0 k (a0_7 == 0) a0_0 a0_1 a0_2 a0_3 a0_4 a0_5 false a0_7) = some r := by rw [if_neg (show ¬ (false = true) by decide)] at H; exact H
      clear H
      have H := H1
      clear H1
      have H' := Aside0.mk H
      clear H
      obtain ⟨hcz9_0, hcz9_1, hcz9_2, hcz9_3, hcz9_4, hcz9_5, hcz9_6, hcz9_7, hfz9_0, hfz9_1, hfz9_2, hfz9_3, hfz9_4, hfz9_5, hfz9_6, hfz9_7⟩ := blk8 BK158.out
      go_wp2
      go_meet
      case rel => exact ⟨_, ((a0_7 == 0)), sd_, H', ⟨by first | omega | exact Nat.le_refl _⟩, ⟨by (with_reducible repeat (first | refine blk_drewN ?_ _ | refine blk_drew ?_ | refine blk_alloc ?_ _)); exact BK158.out⟩, ⟨bel_ HB.out⟩⟩
    ·rw [if_neg c6] at H
     have c6b0 : (a0_5.toList == ([] : List UInt8)) = false := beq_eq_false_iff_ne.mpr c6
     have c6b1 : (a0_5.toList != ([] : List UInt8)) = true := bne_iff_ne.mpr c6
     have H' := Aside0.mk H
     clear H
     obtain ⟨hcz10_0, hcz10_1, hcz10_2, hcz10_3, hcz10_4, hcz10_5, hcz10_6, hcz10_7, hfz10_0, hfz10_1, hfz10_2, hfz10_3, hfz10_4, hfz10_5, hfz10_6, hfz10_7⟩ := blk8 BK158.out
     go_wp2
     go_meet
     case rel => exact ⟨_, (false), sd_, H', ⟨by first | omega | exact Nat.le_refl _⟩, ⟨by (with_reducible repeat (first | refine blk_drewN ?_ _ | refine blk_drew ?_ | refine blk_alloc ?_ _)); exact BK158.out⟩, ⟨bel_ HB.out⟩⟩
   ·rw [if_neg c5] at H
    have c5b0 : (a0_4 == 0) = false := beq_eq_false_iff_ne.mpr c5
    have c5b1 : (a0_4 != 0) = true := bne_iff_ne.mpr c5
    have H' := Aside0.mk H
    clear H
    obtain ⟨hcz11_0, hcz11_1, hcz11_2, hcz11_3, hcz11_4, hcz11_5, hcz11_6, hcz11_7, hfz11_0, hfz11_1, hfz11_2, hfz11_3, hfz11_4, hfz11_5, hfz11_6, hfz11_7⟩ := blk8 BK158.out
    go_wp2
    go_meet
    case rel => exact ⟨_, (false), sd_, H', ⟨by first | omega | exact Nat.le_refl _⟩, ⟨by (with_reducible repeat (first | refine blk_drewN ?_ _ | refine blk_drew ?_ | refine blk_alloc ?_ _)); exact BK158.out⟩, ⟨bel_ HB.out⟩⟩
  ·rw [if_neg c4] at H
   have c4b0 : (a0_3.toList == ([] : List UInt8)) = false := beq_eq_false_iff_ne.mpr c4
   have c4b1 : (a0_3.toList != ([] : List UInt8)) = true := bne_iff_ne.mpr c4
   (first | rw [c4b0] | rw [c4b1] | rw [c4b2] | (simp only [i64_w, i32_w]; rw [c4b0]) | skip)
   have H' := Aside0.mk H
   clear H
   obtain ⟨hcz12_0, hcz12_1, hcz12_2, hcz12_3, hcz12_4, hcz12_5, hcz12_6, hcz12_7, hfz12_0, hfz12_1, hfz12_2, hfz12_3, hfz12_4, hfz12_5, hfz12_6, hfz12_7⟩ := blk8 BK158.out
   go_wp2
   go_meet
   case rel => exact ⟨_, (false), sd_, H', ⟨by first | omega | exact Nat.le_refl _⟩, ⟨by (with_reducible repeat (first | refine blk_drewN ?_ _ | refine blk_drew ?_ | refine blk_alloc ?_ _)); exact BK158.out⟩, ⟨bel_ HB.out⟩⟩
 case rest =>
  clear HC2
  try clear c1
  try clear p2
  try clear c4
  try clear c4b0
  try clear c4b1
  try clear c4b2
  try clear c5
  try clear c5b0
  try clear c5b1
  try clear c6
  try clear c6b0
  try clear c6b1
  try clear c7
  try clear c11
  try clear hcz10_0
  try clear hcz10_1
  try clear hcz10_2
  try clear hcz10_3
  try clear hcz10_4
  try clear hcz10_5
  try clear hcz10_6
  try clear hcz10_7
  try clear hcz11_0
  try clear hcz11_1
  try clear hcz11_2
  try clear hcz11_3
  try clear hcz11_4
  try clear hcz11_5
  try clear hcz11_6
  try clear hcz11_7
  try clear hcz12_0
  try clear hcz12_1
  try clear hcz12_2
  try clear hcz12_3
  try clear hcz12_4
  try clear hcz12_5
  try clear hcz12_6
  try clear hcz12_7
  try clear hcz8_0
  try clear hcz8_1
  try clear hcz8_2
  try clear hcz8_3
  try clear hcz8_4
  try clear hcz8_5
  try clear hcz8_6
  try clear hcz8_7
  try clear hcz9_0
  try clear hcz9_1
  try clear hcz9_2
  try clear hcz9_3
  try clear hcz9_4
  try clear hcz9_5
  try clear hcz9_6
  try clear hcz9_7
  try clear hfz10_0
  try clear hfz10_1
  try clear hfz10_2
  try clear hfz10_3
  try clear hfz10_4
  try clear hfz10_5
  try clear hfz10_6
  try clear hfz10_7
  try clear hfz11_0
  try clear hfz11_1
  try clear hfz11_2
  try clear hfz11_3
  try clear hfz11_4
  try clear hfz11_5
  try clear hfz11_6
  try clear hfz11_7
  try clear hfz12_0
  try clear hfz12_1
  try clear hfz12_2
  try clear hfz12_3
  try clear hfz12_4
  try clear hfz12_5
  try clear hfz12_6
  try clear hfz12_7
  try clear hfz8_0
  try clear hfz8_1
  try clear hfz8_2
  try clear hfz8_3
  try clear hfz8_4
  try clear hfz8_5
  try clear hfz8_6
  try clear hfz8_7
  try clear hfz9_0
  try clear hfz9_1
  try clear hfz9_2
  try clear hfz9_3
  try clear hfz9_4
  try clear hfz9_5
  try clear hfz9_6
  try clear hfz9_7
  obtain ⟨kq, x3_1, rfl, HA, HJ1, BK158, HB⟩ := hcut
  cases kq with
  | zero => exact absurd HA.out (by simp [tollref07_May.j0])
  | succ kj1 =>
   have H := HA.out
   clear HA
   simp only [tollref07_May.j0] at H
   have HC13 := Aside0.mk H
   clear H
   obtain ⟨hcz14_0, hcz14_1, hcz14_2, hcz14_3, hcz14_4, hcz14_5, hcz14_6, hcz14_7, hfz14_0, hfz14_1, hfz14_2, hfz14_3, hfz14_4, hfz14_5, hfz14_6, hfz14_7⟩ := blk8 BK158.out
   go_upto_if 29 with (fail)
   go_cut [29] (fun v29 wc => ∃ (kq : Nat) (x29_12 : Bool), v29 = .bool x29_12 ∧ Aside0 (tollref07_May.j1 kq x3_1 a0_0 x29_12 a0_0 a0_1 a0_2 a0_3 a0_4 a0_5 a0_6 a0_7 = some r) ∧ Aside0 (kq ≤ kj1) ∧ Aside0 (wc.heap[gb158]? = some (.cells #[.int .i64 a0_0, .string a0_1, .string a0_2, .string a0_3, .int .i64 a0_4, .string a0_5, .bool a0_6, .int .i64 a0_7] 26 (0, 0))) ∧ Aside0 (Below w.heap.size w wc))
   case first =>
    have H := HC13.out
    clear HC13
    by_cases c15 : a0_0 = 1
    ·rw [if_pos c15] at H
     have c15b0 : (a0_0 == 1) = true := beq_iff_eq.mpr c15
     have c15b1 : (a0_0 != 1) = false := bne_eq_false_iff_eq.mpr c15
     clear c15
     (first | rw [c15b0] | rw [c15b1] | rw [c15b2] | (simp only [i64_w, i32_w]; rw [c15b0]) | skip)
     have H' := Aside0.mk H
     clear H
     go_wp2
     go_meet
     case rel => exact ⟨_, ((a0_0 == 1)), sd_, H', ⟨by have := HJ1.out; first | omega | exact Nat.le_refl _⟩, ⟨by (with_reducible repeat (first | refine blk_drewN ?_ _ | refine blk_drew ?_ | refine blk_alloc ?_ _)); exact BK158.out⟩, ⟨bel_ HB.out⟩⟩
    ·rw [if_neg c15] at H
     have c15b0 : (a0_0 == 1) = false := beq_eq_false_iff_ne.mpr c15
     have c15b1 : (a0_0 != 1) = true := bne_iff_ne.mpr c15
     (first | rw [c15b0] | rw [c15b1] | rw [c15b2] | (simp only [i64_w, i32_w]; rw [c15b0]) | skip)
     have H' := Aside0.mk H
     clear H
     go_wp2
     go_meet
     case rel => exact ⟨_, ((a0_0 == 2)), sd_, H', ⟨by have := HJ1.out; first | omega | exact Nat.le_refl _⟩, ⟨by (with_reducible repeat (first | refine blk_drewN ?_ _ | refine blk_drew ?_ | refine blk_alloc ?_ _)); exact BK158.out⟩, ⟨bel_ HB.out⟩⟩
   case rest =>
    clear HC13
    try clear c1
    try clear p2
    try clear c4
    try clear c4b0
    try clear c4b1
    try clear c4b2
    try clear c5
    try clear c5b0
    try clear c5b1
    try clear c6
    try clear c6b0
    try clear c6b1
    try clear c7
    try clear c11
    try clear c15
    try clear c15b0
    try clear c15b1
    try clear c15b2
    try clear hcz10_0
    try clear hcz10_1
    try clear hcz10_2
    try clear hcz10_3
    try clear hcz10_4
    try clear hcz10_5
    try clear hcz10_6
    try clear hcz10_7
    try clear hcz11_0
    try clear hcz11_1
    try clear hcz11_2
    try clear hcz11_3
    try clear hcz11_4
    try clear hcz11_5
    try clear hcz11_6
    try clear hcz11_7
    try clear hcz12_0
    try clear hcz12_1
    try clear hcz12_2
    try clear hcz12_3
    try clear hcz12_4
    try clear hcz12_5
    try clear hcz12_6
    try clear hcz12_7
    try clear hcz14_0
    try clear hcz14_1
    try clear hcz14_2
    try clear hcz14_3
    try clear hcz14_4
    try clear hcz14_5
    try clear hcz14_6
    try clear hcz14_7
    try clear hcz8_0
    try clear hcz8_1
    try clear hcz8_2
    try clear hcz8_3
    try clear hcz8_4
    try clear hcz8_5
    try clear hcz8_6
    try clear hcz8_7
    try clear hcz9_0
    try clear hcz9_1
    try clear hcz9_2
    try clear hcz9_3
    try clear hcz9_4
    try clear hcz9_5
    try clear hcz9_6
    try clear hcz9_7
    try clear hfz10_0
    try clear hfz10_1
    try clear hfz10_2
    try clear hfz10_3
    try clear hfz10_4
    try clear hfz10_5
    try clear hfz10_6
    try clear hfz10_7
    try clear hfz11_0
    try clear hfz11_1
    try clear hfz11_2
    try clear hfz11_3
    try clear hfz11_4
    try clear hfz11_5
    try clear hfz11_6
    try clear hfz11_7
    try clear hfz12_0
    try clear hfz12_1
    try clear hfz12_2
    try clear hfz12_3
    try clear hfz12_4
    try clear hfz12_5
    try clear hfz12_6
    try clear hfz12_7
    try clear hfz14_0
    try clear hfz14_1
    try clear hfz14_2
    try clear hfz14_3
    try clear hfz14_4
    try clear hfz14_5
    try clear hfz14_6
    try clear hfz14_7
    try clear hfz8_0
    try clear hfz8_1
    try clear hfz8_2
    try clear hfz8_3
    try clear hfz8_4
    try clear hfz8_5
    try clear hfz8_6
    try clear hfz8_7
    try clear hfz9_0
    try clear hfz9_1
    try clear hfz9_2
    try clear hfz9_3
    try clear hfz9_4
    try clear hfz9_5
    try clear hfz9_6
    try clear hfz9_7
    try clear p2
    obtain ⟨kq, x29_12, rfl, HA, HJ12, BK158, HB⟩ := hcut
    cases kq with
    | zero => exact absurd HA.out (by simp [tollref07_May.j1])
    | succ kj12 =>
     have H := HA.out
     clear HA
     simp only [tollref07_May.j1] at H
     by_cases c16 : x29_12 = true
     ·subst c16
      have H1 : (if x3_1 = true then ((tollref05_Token.f kj12 a0_1).bind fun t159 => (if t159 = true then ((tollref05_Value.f kj12 a0_2).bind fun t160 => (some t160)) else (some false))) else (some false)) = some r := by rw [if_pos rfl] at H; exact H
      clear H
      have H := H1
      clear H1
      by_cases c17 : x3_1 = true
      ·subst c17
       have H1 : ((tollref05_Token.f kj12 a0_1).bind fun t159 => (if t159 = true then ((tollref05_Value.f kj12 a0_2).bind fun t160 => (some t160)) else (some false))) = some r := by rw [if_pos rfl] at H; exact H
       clear H
       have H := H1
       clear H1
       replace H := Option.bind_eq_some_iff.mp H
       obtain ⟨t159, A180, H⟩ := H
       replace H : (if t159 = true then ((tollref05_Value.f kj12 a0_2).bind fun t160 => (some t160)) else (some false)) = some r := H
       have A18 := Aside0.mk A180
       clear A180
       by_cases c19 : t159 = true
       ·subst c19
        have H1 : ((tollref05_Value.f kj12 a0_2).bind fun t160 => (some t160)) = some r := by rw [if_pos rfl] at H; exact H
        clear H
        have H := H1
        clear H1
        replace H := Option.bind_eq_some_iff.mp H
        obtain ⟨t160, A200, H⟩ := H
        replace H : (some t160) = some r := H
        have A20 := Aside0.mk A200
        clear A200
        obtain rfl := Option.some.inj H
        obtain ⟨hcz21_0, hcz21_1, hcz21_2, hcz21_3, hcz21_4, hcz21_5, hcz21_6, hcz21_7, hfz21_0, hfz21_1, hfz21_2, hfz21_3, hfz21_4, hfz21_5, hfz21_6, hfz21_7⟩ := blk8 BK158.out
        go_wp2_with (first | (go_at_call 31; (with_reducible refine (tollref05_Token.calls kj12 a0_1 true _ A18.out).mono ?_); rintro e w' ⟨rfl, ⟨nd, rfl⟩⟩) | (go_at_call 32; (with_reducible refine (tollref05_Value.calls kj12 a0_2 t160 _ A20.out).mono ?_); rintro e w' ⟨rfl, ⟨nd, rfl⟩⟩))
        go_ret
        exact ⟨fi_, bel_ HB.out⟩
       ·replace c19 := Bool.eq_false_iff.mpr c19
        subst c19
        have H1 : (some false) = some r := by rw [if_neg (show ¬ (false = true) by decide)] at H; exact H
        clear H
        have H := H1
        clear H1
        obtain rfl := Option.some.inj H
        obtain ⟨hcz22_0, hcz22_1, hcz22_2, hcz22_3, hcz22_4, hcz22_5, hcz22_6, hcz22_7, hfz22_0, hfz22_1, hfz22_2, hfz22_3, hfz22_4, hfz22_5, hfz22_6, hfz22_7⟩ := blk8 BK158.out
        go_wp2_with (first | (go_at_call 31; (with_reducible refine (tollref05_Token.calls kj12 a0_1 false _ A18.out).mono ?_); rintro e w' ⟨rfl, ⟨nd, rfl⟩⟩))
        go_ret
        exact ⟨fi_, bel_ HB.out⟩
      ·replace c17 := Bool.eq_false_iff.mpr c17
       subst c17
       have H1 : (some false) = some r := by rw [if_neg (show ¬ (false = true) by decide)] at H; exact H
       clear H
       have H := H1
       clear H1
       obtain rfl := Option.some.inj H
       go_wp2
       go_ret
       exact ⟨fi_, bel_ HB.out⟩
     ·replace c16 := Bool.eq_false_iff.mpr c16
      subst c16
      have H1 : (if a0_0 = 3 then (if x3_1 = true then ((tollref05_Token.f kj12 a0_1).bind fun t161 => (if t161 = true then (some (a0_2.toList == ([] : List UInt8))) else (some false))) else (some false)) else (if a0_0 = 4 then (if a0_1.toList = ([] : List UInt8) then (if a0_2.toList = ([] : List UInt8) then ((tollref07_turns.f kj12 a0_0 a0_1 a0_2 a0_3 a0_4 a0_5 a0_6 a0_7).bind fun t162 => (if t162 = true then (if 0 ≤ a0_4 then (if a0_4 ≤ 65535 then (if a0_7 = 301 then (some true) else (some (a0_7 == 302))) else (some false)) else (some false)) else (some false))) else (some false)) else (some false)) else (if a0_0 = 5 then (if a0_1.toList = ([] : List UInt8) then (if a0_2.toList = ([] : List UInt8) then (if a0_4 = 0 then (if a0_7 = 0 then ((tollref07_turns.f kj12 a0_0 a0_1 a0_2 a0_3 a0_4 a0_5 a0_6 a0_7).bind fun t163 => (if t163 = true then (if a0_3.size + a0_5.size ≤ 9223372036854775807 then (some ((a0_3 ++ a0_5).toList != ([] : List UInt8))) else (none)) else (some false))) else (some false)) else (some false)) else (some false)) else (some false)) else (some false)))) = some r := by rw [if_neg (show ¬ (false = true) by decide)] at H; exact H
      clear H
      have H := H1
      clear H1
      by_cases c23 : a0_0 = 3
      ·rw [if_pos c23] at H
       have c23b0 : (a0_0 == 3) = true := beq_iff_eq.mpr c23
       have c23b1 : (a0_0 != 3) = false := bne_eq_false_iff_eq.mpr c23
       clear c23
       by_cases c24 : x3_1 = true
       ·subst c24
        have H1 : ((tollref05_Token.f kj12 a0_1).bind fun t161 => (if t161 = true then (some (a0_2.toList == ([] : List UInt8))) else (some false))) = some r := by rw [if_pos rfl] at H; exact H
        clear H
        have H := H1
        clear H1
        replace H := Option.bind_eq_some_iff.mp H
        obtain ⟨t161, A250, H⟩ := H
        replace H : (if t161 = true then (some (a0_2.toList == ([] : List UInt8))) else (some false)) = some r := H
        have A25 := Aside0.mk A250
        clear A250
        by_cases c26 : t161 = true
        ·subst c26
         have H1 : (some (a0_2.toList == ([] : List UInt8))) = some r := by rw [if_pos rfl] at H; exact H
         clear H
         have H := H1
         clear H1
         obtain rfl := Option.some.inj H
         obtain ⟨hcz27_0, hcz27_1, hcz27_2, hcz27_3, hcz27_4, hcz27_5, hcz27_6, hcz27_7, hfz27_0, hfz27_1, hfz27_2, hfz27_3, hfz27_4, hfz27_5, hfz27_6, hfz27_7⟩ := blk8 BK158.out
         go_wp2_with (first | (go_at_call 31; (with_reducible refine (tollref05_Token.calls kj12 a0_1 true _ A25.out).mono ?_); rintro e w' ⟨rfl, ⟨nd, rfl⟩⟩))
         go_ret
         exact ⟨fi_, bel_ HB.out⟩
        ·replace c26 := Bool.eq_false_iff.mpr c26
         subst c26
         have H1 : (some false) = some r := by rw [if_neg (show ¬ (false = true) by decide)] at H; exact H
         clear H
         have H := H1
         clear H1
         obtain rfl := Option.some.inj H
         obtain ⟨hcz28_0, hcz28_1, hcz28_2, hcz28_3, hcz28_4, hcz28_5, hcz28_6, hcz28_7, hfz28_0, hfz28_1, hfz28_2, hfz28_3, hfz28_4, hfz28_5, hfz28_6, hfz28_7⟩ := blk8 BK158.out
         go_wp2_with (first | (go_at_call 31; (with_reducible refine (tollref05_Token.calls kj12 a0_1 false _ A25.out).mono ?_); rintro e w' ⟨rfl, ⟨nd, rfl⟩⟩))
         go_ret
         exact ⟨fi_, bel_ HB.out⟩
       ·replace c24 := Bool.eq_false_iff.mpr c24
        subst c24
        have H1 : (some false) = some r := by rw [if_neg (show ¬ (false = true) by decide)] at H; exact H
        clear H
        have H := H1
        clear H1
        obtain rfl := Option.some.inj H
        go_wp2
        go_ret
        exact ⟨fi_, bel_ HB.out⟩
      ·rw [if_neg c23] at H
       have c23b0 : (a0_0 == 3) = false := beq_eq_false_iff_ne.mpr c23
       have c23b1 : (a0_0 != 3) = true := bne_iff_ne.mpr c23
       by_cases c29 : a0_0 = 4
       ·rw [if_pos c29] at H
        have c29b0 : (a0_0 == 4) = true := beq_iff_eq.mpr c29
        have c29b1 : (a0_0 != 4) = false := bne_eq_false_iff_eq.mpr c29
        clear c29
        by_cases c30 : a0_1.toList = ([] : List UInt8)
        ·rw [if_pos c30] at H
         have c30b0 : (a0_1.toList == ([] : List UInt8)) = true := beq_iff_eq.mpr c30
         have c30b1 : (a0_1.toList != ([] : List UInt8)) = false := bne_eq_false_iff_eq.mpr c30
         clear c30
         by_cases c31 : a0_2.toList = ([] : List UInt8)
         ·rw [if_pos c31] at H
          have c31b0 : (a0_2.toList == ([] : List UInt8)) = true := beq_iff_eq.mpr c31
          have c31b1 : (a0_2.toList != ([] : List UInt8)) = false := bne_eq_false_iff_eq.mpr c31
          clear c31
          replace H := Option.bind_eq_some_iff.mp H
          obtain ⟨t162, A320, H⟩ := H
          replace H : (if t162 = true then (if 0 ≤ a0_4 then (if a0_4 ≤ 65535 then (if a0_7 = 301 then (some true) else (some (a0_7 == 302))) else (some false)) else (some false)) else (some false)) = some r := H
          have A32 := Aside0.mk A320
          clear A320
          by_cases c33 : t162 = true
          ·subst c33
           have H1 : (if 0 ≤ a0_4 then (if a0_4 ≤ 65535 then (if a0_7 = 301 then (some true) else (some (a0_7 == 302))) else (some false)) else (some false)) = some r := by rw [if_pos rfl] at H; exact H
           clear H
           have H := H1
           clear H1
           by_cases c34 : 0 ≤ a0_4
           ·rw [if_pos c34] at H
            have c34b0 : decide (0 ≤ a0_4) = true := decide_eq_true c34
            clear c34
            by_cases c35 : a0_4 ≤ 65535
            ·rw [if_pos c35] at H
             have c35b0 : decide (a0_4 ≤ 65535) = true := decide_eq_true c35
             clear c35
             by_cases c36 : a0_7 = 301
             ·rw [if_pos c36] at H
              have c36b0 : (a0_7 == 301) = true := beq_iff_eq.mpr c36
              have c36b1 : (a0_7 != 301) = false := bne_eq_false_iff_eq.mpr c36
              clear c36
              obtain rfl := Option.some.inj H
              obtain ⟨hcz37_0, hcz37_1, hcz37_2, hcz37_3, hcz37_4, hcz37_5, hcz37_6, hcz37_7, hfz37_0, hfz37_1, hfz37_2, hfz37_3, hfz37_4, hfz37_5, hfz37_6, hfz37_7⟩ := blk8 BK158.out
              go_wp2_with (first | (go_at_call 33; (with_reducible refine (tollref07_turns.calls kj12 a0_0 a0_1 a0_2 a0_3 a0_4 a0_5 a0_6 a0_7 true _ A32.out).mono ?_); rintro e w38 ⟨rfl, hb⟩; have n0_ := am_ (blk_below (g := gb158) (o := .cells #[.int .i64 a0_0, .string a0_1, .string a0_2, .string a0_3, .int .i64 a0_4, .string a0_5, .bool a0_6, .int .i64 a0_7] 26 (0, 0)) (blk_ BK158.out) hb); have n1_ := am_ (below_step (bel_ HB.out) hb); clear BK158 HB; have BK158 := n0_; have HB := n1_; clear n0_ n1_; (try clear hb); (try clear hb2); (try clear hk); (try clear hi); obtain ⟨hcz39_0, hcz39_1, hcz39_2, hcz39_3, hcz39_4, hcz39_5, hcz39_6, hcz39_7, hfz39_0, hfz39_1, hfz39_2, hfz39_3, hfz39_4, hfz39_5, hfz39_6, hfz39_7⟩ := blk8 BK158.out))
              go_ret
              exact ⟨fi_, bel_ HB.out⟩
             ·rw [if_neg c36] at H
              have c36b0 : (a0_7 == 301) = false := beq_eq_false_iff_ne.mpr c36
              have c36b1 : (a0_7 != 301) = true := bne_iff_ne.mpr c36
              obtain rfl := Option.some.inj H
              obtain ⟨hcz40_0, hcz40_1, hcz40_2, hcz40_3, hcz40_4, hcz40_5, hcz40_6, hcz40_7, hfz40_0, hfz40_1, hfz40_2, hfz40_3, hfz40_4, hfz40_5, hfz40_6, hfz40_7⟩ := blk8 BK158.out
              go_wp2_with (first | (go_at_call 33; (with_reducible refine (tollref07_turns.calls kj12 a0_0 a0_1 a0_2 a0_3 a0_4 a0_5 a0_6 a0_7 true _ A32.out).mono ?_); rintro e w41 ⟨rfl, hb⟩; have n0_ := am_ (blk_below (g := gb158) (o := .cells #[.int .i64 a0_0, .string a0_1, .string a0_2, .string a0_3, .int .i64 a0_4, .string a0_5, .bool a0_6, .int .i64 a0_7] 26 (0, 0)) (blk_ BK158.out) hb); have n1_ := am_ (below_step (bel_ HB.out) hb); clear BK158 HB; have BK158 := n0_; have HB := n1_; clear n0_ n1_; (try clear hb); (try clear hb2); (try clear hk); (try clear hi); obtain ⟨hcz42_0, hcz42_1, hcz42_2, hcz42_3, hcz42_4, hcz42_5, hcz42_6, hcz42_7, hfz42_0, hfz42_1, hfz42_2, hfz42_3, hfz42_4, hfz42_5, hfz42_6, hfz42_7⟩ := blk8 BK158.out))
              go_ret
              exact ⟨fi_, bel_ HB.out⟩
            ·rw [if_neg c35] at H
             have c35b0 : decide (a0_4 ≤ 65535) = false := decide_eq_false c35
             clear c35
             obtain rfl := Option.some.inj H
             obtain ⟨hcz43_0, hcz43_1, hcz43_2, hcz43_3, hcz43_4, hcz43_5, hcz43_6, hcz43_7, hfz43_0, hfz43_1, hfz43_2, hfz43_3, hfz43_4, hfz43_5, hfz43_6, hfz43_7⟩ := blk8 BK158.out
             go_wp2_with (first | (go_at_call 33; (with_reducible refine (tollref07_turns.calls kj12 a0_0 a0_1 a0_2 a0_3 a0_4 a0_5 a0_6 a0_7 true _ A32.out).mono ?_); rintro e w44 ⟨rfl, hb⟩; have n0_ := am_ (blk_below (g := gb158) (o := .cells #[.int .i64 a0_0, .string a0_1, .string a0_2, .string a0_3, .int .i64 a0_4, .string a0_5, .bool a0_6, .int .i64 a0_7] 26 (0, 0)) (blk_ BK158.out) hb); have n1_ := am_ (below_step (bel_ HB.out) hb); clear BK158 HB; have BK158 := n0_; have HB := n1_; clear n0_ n1_; (try clear hb); (try clear hb2); (try clear hk); (try clear hi); obtain ⟨hcz45_0, hcz45_1, hcz45_2, hcz45_3, hcz45_4, hcz45_5, hcz45_6, hcz45_7, hfz45_0, hfz45_1, hfz45_2, hfz45_3, hfz45_4, hfz45_5, hfz45_6, hfz45_7⟩ := blk8 BK158.out))
             go_ret
             exact ⟨fi_, bel_ HB.out⟩
           ·rw [if_neg c34] at H
            have c34b0 : decide (0 ≤ a0_4) = false := decide_eq_false c34
            clear c34
            obtain rfl := Option.some.inj H
            obtain ⟨hcz46_0, hcz46_1, hcz46_2, hcz46_3, hcz46_4, hcz46_5, hcz46_6, hcz46_7, hfz46_0, hfz46_1, hfz46_2, hfz46_3, hfz46_4, hfz46_5, hfz46_6, hfz46_7⟩ := blk8 BK158.out
            go_wp2_with (first | (go_at_call 33; (with_reducible refine (tollref07_turns.calls kj12 a0_0 a0_1 a0_2 a0_3 a0_4 a0_5 a0_6 a0_7 true _ A32.out).mono ?_); rintro e w47 ⟨rfl, hb⟩; have n0_ := am_ (blk_below (g := gb158) (o := .cells #[.int .i64 a0_0, .string a0_1, .string a0_2, .string a0_3, .int .i64 a0_4, .string a0_5, .bool a0_6, .int .i64 a0_7] 26 (0, 0)) (blk_ BK158.out) hb); have n1_ := am_ (below_step (bel_ HB.out) hb); clear BK158 HB; have BK158 := n0_; have HB := n1_; clear n0_ n1_; (try clear hb); (try clear hb2); (try clear hk); (try clear hi); obtain ⟨hcz48_0, hcz48_1, hcz48_2, hcz48_3, hcz48_4, hcz48_5, hcz48_6, hcz48_7, hfz48_0, hfz48_1, hfz48_2, hfz48_3, hfz48_4, hfz48_5, hfz48_6, hfz48_7⟩ := blk8 BK158.out))
            go_ret
            exact ⟨fi_, bel_ HB.out⟩
          ·replace c33 := Bool.eq_false_iff.mpr c33
           subst c33
           have H1 : (some false) = some r := by rw [if_neg (show ¬ (false = true) by decide)] at H; exact H
           clear H
           have H := H1
           clear H1
           obtain rfl := Option.some.inj H
           obtain ⟨hcz49_0, hcz49_1, hcz49_2, hcz49_3, hcz49_4, hcz49_5, hcz49_6, hcz49_7, hfz49_0, hfz49_1, hfz49_2, hfz49_3, hfz49_4, hfz49_5, hfz49_6, hfz49_7⟩ := blk8 BK158.out
           go_wp2_with (first | (go_at_call 33; (with_reducible refine (tollref07_turns.calls kj12 a0_0 a0_1 a0_2 a0_3 a0_4 a0_5 a0_6 a0_7 false _ A32.out).mono ?_); rintro e w50 ⟨rfl, hb⟩; have n0_ := am_ (blk_below (g := gb158) (o := .cells #[.int .i64 a0_0, .string a0_1, .string a0_2, .string a0_3, .int .i64 a0_4, .string a0_5, .bool a0_6, .int .i64 a0_7] 26 (0, 0)) (blk_ BK158.out) hb); have n1_ := am_ (below_step (bel_ HB.out) hb); clear BK158 HB; have BK158 := n0_; have HB := n1_; clear n0_ n1_; (try clear hb); (try clear hb2); (try clear hk); (try clear hi)))
           go_ret
           exact ⟨fi_, bel_ HB.out⟩
         ·rw [if_neg c31] at H
          have c31b0 : (a0_2.toList == ([] : List UInt8)) = false := beq_eq_false_iff_ne.mpr c31
          have c31b1 : (a0_2.toList != ([] : List UInt8)) = true := bne_iff_ne.mpr c31
          obtain rfl := Option.some.inj H
          obtain ⟨hcz51_0, hcz51_1, hcz51_2, hcz51_3, hcz51_4, hcz51_5, hcz51_6, hcz51_7, hfz51_0, hfz51_1, hfz51_2, hfz51_3, hfz51_4, hfz51_5, hfz51_6, hfz51_7⟩ := blk8 BK158.out
          go_wp2
          go_ret
          exact ⟨fi_, bel_ HB.out⟩
        ·rw [if_neg c30] at H
         have c30b0 : (a0_1.toList == ([] : List UInt8)) = false := beq_eq_false_iff_ne.mpr c30
         have c30b1 : (a0_1.toList != ([] : List UInt8)) = true := bne_iff_ne.mpr c30
         obtain rfl := Option.some.inj H
         obtain ⟨hcz52_0, hcz52_1, hcz52_2, hcz52_3, hcz52_4, hcz52_5, hcz52_6, hcz52_7, hfz52_0, hfz52_1, hfz52_2, hfz52_3, hfz52_4, hfz52_5, hfz52_6, hfz52_7⟩ := blk8 BK158.out
         go_wp2
         go_ret
         exact ⟨fi_, bel_ HB.out⟩
       ·rw [if_neg c29] at H
        have c29b0 : (a0_0 == 4) = false := beq_eq_false_iff_ne.mpr c29
        have c29b1 : (a0_0 != 4) = true := bne_iff_ne.mpr c29
        by_cases c53 : a0_0 = 5
        ·rw [if_pos c53] at H
         have c53b0 : (a0_0 == 5) = true := beq_iff_eq.mpr c53
         have c53b1 : (a0_0 != 5) = false := bne_eq_false_iff_eq.mpr c53
         clear c53
         by_cases c54 : a0_1.toList = ([] : List UInt8)
         ·rw [if_pos c54] at H
          have c54b0 : (a0_1.toList == ([] : List UInt8)) = true := beq_iff_eq.mpr c54
          have c54b1 : (a0_1.toList != ([] : List UInt8)) = false := bne_eq_false_iff_eq.mpr c54
          clear c54
          by_cases c55 : a0_2.toList = ([] : List UInt8)
          ·rw [if_pos c55] at H
           have c55b0 : (a0_2.toList == ([] : List UInt8)) = true := beq_iff_eq.mpr c55
           have c55b1 : (a0_2.toList != ([] : List UInt8)) = false := bne_eq_false_iff_eq.mpr c55
           clear c55
           by_cases c56 : a0_4 = 0
           ·rw [if_pos c56] at H
            have c56b0 : (a0_4 == 0) = true := beq_iff_eq.mpr c56
            have c56b1 : (a0_4 != 0) = false := bne_eq_false_iff_eq.mpr c56
            clear c56
            by_cases c57 : a0_7 = 0
            ·rw [if_pos c57] at H
             have c57b0 : (a0_7 == 0) = true := beq_iff_eq.mpr c57
             have c57b1 : (a0_7 != 0) = false := bne_eq_false_iff_eq.mpr c57
             clear c57
             replace H := Option.bind_eq_some_iff.mp H
             obtain ⟨t163, A580, H⟩ := H
             replace H : (if t163 = true then (if a0_3.size + a0_5.size ≤ 9223372036854775807 then (some ((a0_3 ++ a0_5).toList != ([] : List UInt8))) else (none)) else (some false)) = some r := H
             have A58 := Aside0.mk A580
             clear A580
             by_cases c59 : t163 = true
             ·subst c59
              have H1 : (if a0_3.size + a0_5.size ≤ 9223372036854775807 then (some ((a0_3 ++ a0_5).toList != ([] : List UInt8))) else (none)) = some r := by rw [if_pos rfl] at H; exact H
              clear H
              have H := H1
              clear H1
              by_cases c60 : a0_3.size + a0_5.size ≤ 9223372036854775807
              ·rw [if_pos c60] at H
               have c60b0 := eq_true c60
               have c60b1 : decide (a0_3.size + a0_5.size ≤ 9223372036854775807) = true := decide_eq_true c60
               try have c60b2 : (9223372036854775807 < a0_3.size + a0_5.size) = False := eq_false (Nat.not_lt.2 c60)
               obtain rfl := Option.some.inj H
               obtain ⟨hcz61_0, hcz61_1, hcz61_2, hcz61_3, hcz61_4, hcz61_5, hcz61_6, hcz61_7, hfz61_0, hfz61_1, hfz61_2, hfz61_3, hfz61_4, hfz61_5, hfz61_6, hfz61_7⟩ := blk8 BK158.out
               go_wp2_with (first | (go_at_call 33; (with_reducible refine (tollref07_turns.calls kj12 a0_0 a0_1 a0_2 a0_3 a0_4 a0_5 a0_6 a0_7 true _ A58.out).mono ?_); rintro e w62 ⟨rfl, hb⟩; have n0_ := am_ (blk_below (g := gb158) (o := .cells #[.int .i64 a0_0, .string a0_1, .string a0_2, .string a0_3, .int .i64 a0_4, .string a0_5, .bool a0_6, .int .i64 a0_7] 26 (0, 0)) (blk_ BK158.out) hb); have n1_ := am_ (below_step (bel_ HB.out) hb); clear BK158 HB; have BK158 := n0_; have HB := n1_; clear n0_ n1_; (try clear hb); (try clear hb2); (try clear hk); (try clear hi); obtain ⟨hcz63_0, hcz63_1, hcz63_2, hcz63_3, hcz63_4, hcz63_5, hcz63_6, hcz63_7, hfz63_0, hfz63_1, hfz63_2, hfz63_3, hfz63_4, hfz63_5, hfz63_6, hfz63_7⟩ := blk8 BK158.out))
               go_ret
               exact ⟨fi_, bel_ HB.out⟩
              ·rw [if_neg c60] at H
               exact absurd H (by simp)
             ·replace c59 := Bool.eq_false_iff.mpr c59
              subst c59
              have H1 : (some false) = some r := by rw [if_neg (show ¬ (false = true) by decide)] at H; exact H
              clear H
              have H := H1
              clear H1
              obtain rfl := Option.some.inj H
              obtain ⟨hcz64_0, hcz64_1, hcz64_2, hcz64_3, hcz64_4, hcz64_5, hcz64_6, hcz64_7, hfz64_0, hfz64_1, hfz64_2, hfz64_3, hfz64_4, hfz64_5, hfz64_6, hfz64_7⟩ := blk8 BK158.out
              go_wp2_with (first | (go_at_call 33; (with_reducible refine (tollref07_turns.calls kj12 a0_0 a0_1 a0_2 a0_3 a0_4 a0_5 a0_6 a0_7 false _ A58.out).mono ?_); rintro e w65 ⟨rfl, hb⟩; have n0_ := am_ (blk_below (g := gb158) (o := .cells #[.int .i64 a0_0, .string a0_1, .string a0_2, .string a0_3, .int .i64 a0_4, .string a0_5, .bool a0_6, .int .i64 a0_7] 26 (0, 0)) (blk_ BK158.out) hb); have n1_ := am_ (below_step (bel_ HB.out) hb); clear BK158 HB; have BK158 := n0_; have HB := n1_; clear n0_ n1_; (try clear hb); (try clear hb2); (try clear hk); (try clear hi)))
              go_ret
              exact ⟨fi_, bel_ HB.out⟩
            ·rw [if_neg c57] at H
             have c57b0 : (a0_7 == 0) = false := beq_eq_false_iff_ne.mpr c57
             have c57b1 : (a0_7 != 0) = true := bne_iff_ne.mpr c57
             obtain rfl := Option.some.inj H
             obtain ⟨hcz66_0, hcz66_1, hcz66_2, hcz66_3, hcz66_4, hcz66_5, hcz66_6, hcz66_7, hfz66_0, hfz66_1, hfz66_2, hfz66_3, hfz66_4, hfz66_5, hfz66_6, hfz66_7⟩ := blk8 BK158.out
             go_wp2
             go_ret
             exact ⟨fi_, bel_ HB.out⟩
           ·rw [if_neg c56] at H
            have c56b0 : (a0_4 == 0) = false := beq_eq_false_iff_ne.mpr c56
            have c56b1 : (a0_4 != 0) = true := bne_iff_ne.mpr c56
            obtain rfl := Option.some.inj H
            obtain ⟨hcz67_0, hcz67_1, hcz67_2, hcz67_3, hcz67_4, hcz67_5, hcz67_6, hcz67_7, hfz67_0, hfz67_1, hfz67_2, hfz67_3, hfz67_4, hfz67_5, hfz67_6, hfz67_7⟩ := blk8 BK158.out
            go_wp2
            go_ret
            exact ⟨fi_, bel_ HB.out⟩
          ·rw [if_neg c55] at H
           have c55b0 : (a0_2.toList == ([] : List UInt8)) = false := beq_eq_false_iff_ne.mpr c55
           have c55b1 : (a0_2.toList != ([] : List UInt8)) = true := bne_iff_ne.mpr c55
           obtain rfl := Option.some.inj H
           obtain ⟨hcz68_0, hcz68_1, hcz68_2, hcz68_3, hcz68_4, hcz68_5, hcz68_6, hcz68_7, hfz68_0, hfz68_1, hfz68_2, hfz68_3, hfz68_4, hfz68_5, hfz68_6, hfz68_7⟩ := blk8 BK158.out
           go_wp2
           go_ret
           exact ⟨fi_, bel_ HB.out⟩
         ·rw [if_neg c54] at H
          have c54b0 : (a0_1.toList == ([] : List UInt8)) = false := beq_eq_false_iff_ne.mpr c54
          have c54b1 : (a0_1.toList != ([] : List UInt8)) = true := bne_iff_ne.mpr c54
          obtain rfl := Option.some.inj H
          obtain ⟨hcz69_0, hcz69_1, hcz69_2, hcz69_3, hcz69_4, hcz69_5, hcz69_6, hcz69_7, hfz69_0, hfz69_1, hfz69_2, hfz69_3, hfz69_4, hfz69_5, hfz69_6, hfz69_7⟩ := blk8 BK158.out
          go_wp2
          go_ret
          exact ⟨fi_, bel_ HB.out⟩
        ·rw [if_neg c53] at H
         have c53b0 : (a0_0 == 5) = false := beq_eq_false_iff_ne.mpr c53
         have c53b1 : (a0_0 != 5) = true := bne_iff_ne.mpr c53
         obtain rfl := Option.some.inj H
         go_wp2
         go_ret
         exact ⟨fi_, bel_ HB.out⟩

end Go.Proofs.YtfdopmjgiakcdaaGreatDoor.P
