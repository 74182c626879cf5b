-- written by wip/tool/hprint.py of this repo: the kit's print, with contracts by hand joined; Lean checks it.
import Derived.Test.YtpmllmfamjpinaaDoorPx0
namespace Go.Proofs.YtpmllmfamjpinaaDoor.P
open Go.RowKit Go.Proofs.YtpmllmfamjpinaaDoorW.PrintWords Go.Proofs.YtpmllmfamjpinaaDoorW.PrintLast Go.Proofs.YtpmllmfamjpinaaDoorW.PrintMore
attribute [local go_sem] max2_int min2_int max_two min_two max_three min_three max_four min_four   -- for this text's walks alone
set_option linter.unusedVariables false
set_option linter.unusedSimpArgs false

/-! ### tollref06_Method: function 18 -/
def tollref06_Method.l0 : Nat → ByteArray → Int → Option (Bool)
 | 0, _, _ => none
 | k + 1, x0, x3 => if x3 < (x0.size : Int) then (if 0 ≤ x3 then (if (bt x0 x3) < 65 then (some false) else (if (bt x0 x3) > 90 then (some false) else (tollref06_Method.l0 k x0 (wrap64 (x3 + 1))))) else (none)) else (if 1 ≤ (x0.size : Int) then (some (decide ((x0.size : Int) ≤ 10))) else (some false))
def tollref06_Method.f (k : Nat) (a0 : ByteArray) : Option (Bool) := tollref06_Method.l0 k a0 0
theorem tollref06_Method.mono_l : ∀ k, (∀ y0 y1, LeO (tollref06_Method.l0 k y0 y1) (tollref06_Method.l0 (k + 1) y0 y1))
 | 0 => fun _ _ r h => by simp [tollref06_Method.l0] at h
 | k + 1 => by
  have ih0 := tollref06_Method.mono_l k
  ·intro y0 y1
   unfold tollref06_Method.l0
   repeat' first
   | (with_reducible exact ih0 _ _)
   | (with_reducible exact LeO.refl _)
   | (with_reducible exact LeO.none _)
   | (with_reducible refine LeO.ite ?_ ?_)
   | (with_reducible refine LeO.bind ?_ (fun _ => ?_))
   | exact ih0 _ _
   | exact LeO.none _
   | refine LeO.ite ?_ ?_
   | refine LeO.bind ?_ (fun _ => ?_)
theorem tollref06_Method.mono : ∀ a0 k, LeO (tollref06_Method.f k a0) (tollref06_Method.f (k + 1) a0) := by
 intro a0 k
 have ih0 := tollref06_Method.mono_l k
 unfold tollref06_Method.f
 repeat' first
   | (with_reducible exact ih0 _ _)
   | (with_reducible exact LeO.refl _)
   | (with_reducible exact LeO.none _)
   | (with_reducible refine LeO.ite ?_ ?_)
   | (with_reducible refine LeO.bind ?_ (fun _ => ?_))
   | exact ih0 _ _
   | exact LeO.none _
   | refine LeO.ite ?_ ?_
   | refine LeO.bind ?_ (fun _ => ?_)
set_option maxHeartbeats 8000000 in
set_option maxRecDepth 100000 in
theorem tollref06_Method.calls (k : Nat) (a0 : ByteArray) (r : Bool) (w : World) (h : tollref06_Method.f k a0 = some r) :
  Calls Tryd.prog 18 #[.string a0] w fun e w' => e = .returned (.bool r) ∧ Drawn0 w w' := by
 have H : (tollref06_Method.l0 k a0 0) = some r := h
 clear h
 have H' := Aside0.mk H
 clear H
 go_enter Tryd.func18, Tryd.ntmps18
 go_wp2
 go_loopg [3] k (fun kq v3 w' => ∃ (x3_1 : Int), v3 = .int .i64 x3_1 ∧ Aside0 (tollref06_Method.l0 kq a0 x3_1 = some r) ∧ Aside0 (kq ≤ k) ∧ Drawn0 w w')
 case atStart => exact ⟨(0), sd_, H', ⟨Nat.le_refl _⟩, by repeat (first | exact Drawn0.refl _ | apply Drawn0.step)⟩
 case round =>
  clear H'
  try clear c1
  obtain ⟨x3_1, rfl, HA, HK1, ⟨m1, rfl⟩⟩ := hrel
  cases gk with
  | zero => exact absurd HA.out (by simp [tollref06_Method.l0])
  | succ k1 =>
   have H := HA.out
   clear HA
   simp only [tollref06_Method.l0] at H
   by_cases c2 : x3_1 < (a0.size : Int)
   ·rw [if_pos c2] at H
    have c2b0 : decide (x3_1 < (a0.size : Int)) = true := decide_eq_true c2
    clear c2
    by_cases c3 : 0 ≤ x3_1
    ·rw [if_pos c3] at H
     have c3b0 : decide (0 ≤ x3_1) = true := decide_eq_true c3
     clear c3
     by_cases c5 : (bt a0 x3_1) < 65
     ·rw [if_pos c5] at H
      have c5b0 : decide ((bt a0 x3_1) < 65) = true := decide_eq_true c5
      clear c5
      obtain rfl := Option.some.inj H
      have p4 : 0 ≤ (x3_1 : Int) := of_decide_eq_true as_
      have q4 : x3_1 < (a0.size : Int) := of_decide_eq_true as_
      have hx4 := bt_at a0 x3_1
      replace p4 := eq_true p4
      replace q4 := eq_true q4
      go_wp2
      go_ret
      exact ⟨by first | rfl | (simp; done) | (simp [*]; done) | (simp [bne_nil_isEmpty, beq_nil_isEmpty]; done) | (simp [*, bne_nil_isEmpty, beq_nil_isEmpty]; done), by repeat (first | exact Drawn0.refl _ | apply Drawn0.step)⟩
     ·rw [if_neg c5] at H
      have c5b0 : decide ((bt a0 x3_1) < 65) = false := decide_eq_false c5
      clear c5
      by_cases c7 : (bt a0 x3_1) > 90
      ·rw [if_pos c7] at H
       have c7b0 : decide (90 < (bt a0 x3_1)) = true := decide_eq_true c7
       clear c7
       obtain rfl := Option.some.inj H
       have p4 : 0 ≤ (x3_1 : Int) := of_decide_eq_true as_
       have q4 : x3_1 < (a0.size : Int) := of_decide_eq_true as_
       have hx4 := bt_at a0 x3_1
       replace p4 := eq_true p4
       replace q4 := eq_true q4
       have p6 : 0 ≤ (x3_1 : Int) := of_decide_eq_true as_
       have q6 : x3_1 < (a0.size : Int) := of_decide_eq_true as_
       have hx6 := bt_at a0 x3_1
       replace p6 := eq_true p6
       replace q6 := eq_true q6
       go_wp2
       go_ret
       exact ⟨by first | rfl | (simp; done) | (simp [*]; done) | (simp [bne_nil_isEmpty, beq_nil_isEmpty]; done) | (simp [*, bne_nil_isEmpty, beq_nil_isEmpty]; done), by repeat (first | exact Drawn0.refl _ | apply Drawn0.step)⟩
      ·rw [if_neg c7] at H
       have c7b0 : decide (90 < (bt a0 x3_1)) = false := decide_eq_false c7
       clear c7
       have H' := Aside0.mk H
       clear H
       have p4 : 0 ≤ (x3_1 : Int) := of_decide_eq_true as_
       have q4 : x3_1 < (a0.size : Int) := of_decide_eq_true as_
       have hx4 := bt_at a0 x3_1
       replace p4 := eq_true p4
       replace q4 := eq_true q4
       have p6 : 0 ≤ (x3_1 : Int) := of_decide_eq_true as_
       have q6 : x3_1 < (a0.size : Int) := of_decide_eq_true as_
       have hx6 := bt_at a0 x3_1
       replace p6 := eq_true p6
       replace q6 := eq_true q6
       go_wp2
       go_roundg k1
       case measure => have := HK1.out; omega
       case rel => exact ⟨(wrap64 (x3_1 + 1)), sd_, H', ⟨by have := HK1.out; omega⟩, by repeat (first | exact Drawn0.refl _ | apply Drawn0.step)⟩
    ·rw [if_neg c3] at H
     exact absurd H (by simp)
   ·rw [if_neg c2] at H
    have c2b0 : decide (x3_1 < (a0.size : Int)) = false := decide_eq_false c2
    clear c2
    by_cases c8 : 1 ≤ (a0.size : Int)
    ·rw [if_pos c8] at H
     have c8b0 : decide (1 ≤ (a0.size : Int)) = true := decide_eq_true c8
     have c8b1 : decide (1 ≤ a0.size) = true := decide_eq_true (by omega)
     clear c8
     obtain rfl := Option.some.inj H
     go_wp2
     go_ret
     exact ⟨by first | rfl | (simp; done) | (simp [*]; done) | (simp [bne_nil_isEmpty, beq_nil_isEmpty]; done) | (simp [*, bne_nil_isEmpty, beq_nil_isEmpty]; done), by repeat (first | exact Drawn0.refl _ | apply Drawn0.step)⟩
    ·rw [if_neg c8] at H
     have c8b0 : decide (1 ≤ (a0.size : Int)) = false := decide_eq_false c8
     have c8b1 : decide (1 ≤ a0.size) = false := decide_eq_false (by omega)
     clear c8
     obtain rfl := Option.some.inj H
     go_wp2
     go_ret
     exact ⟨by first | rfl | (simp; done) | (simp [*]; done) | (simp [bne_nil_isEmpty, beq_nil_isEmpty]; done) | (simp [*, bne_nil_isEmpty, beq_nil_isEmpty]; done), by repeat (first | exact Drawn0.refl _ | apply Drawn0.step)⟩

/-! ### tollref03_Is: function 19 -/
mutual
def tollref03_Is.j0 : Nat → ByteArray → Bool → Option (Bool)
 | 0, _, _ => none
 | k + 1, x0, x16 => if x16 = true then (some false) else (tollref03_Is.l0 k x0 0)
def tollref03_Is.l0 : Nat → ByteArray → Int → Option (Bool)
 | 0, _, _ => none
 | k + 1, x0, x3 => if x3 < (x0.size : Int) then (if 0 ≤ x3 then (if (bt x0 x3) < 33 then (some false) else (if (bt x0 x3) > 126 then (some false) else (if (bt x0 x3) = 63 then (some false) else (if (bt x0 x3) = 35 then (some false) else (tollref03_Is.l0 k x0 (wrap64 (x3 + 1))))))) else (none)) else (some true)
end
def tollref03_Is.f (k : Nat) (a0 : ByteArray) : Option (Bool) := if (a0.size : Int) < 1 then (tollref03_Is.j0 k a0 true) else (if (a0.size : Int) > 60 then (tollref03_Is.j0 k a0 true) else (if 0 < (a0.size : Int) then (tollref03_Is.j0 k a0 ((bt a0 0) != 47)) else (none)))
theorem tollref03_Is.mono_l : ∀ k, (∀ y0 y1, LeO (tollref03_Is.j0 k y0 y1) (tollref03_Is.j0 (k + 1) y0 y1)) ∧ (∀ y0 y1, LeO (tollref03_Is.l0 k y0 y1) (tollref03_Is.l0 (k + 1) y0 y1))
 | 0 => ⟨fun _ _ r h => by simp [tollref03_Is.j0] at h, fun _ _ r h => by simp [tollref03_Is.l0] at h⟩
 | k + 1 => by
  obtain ⟨ih0, ih1⟩ := tollref03_Is.mono_l k
  refine ⟨?_, ?_⟩
  ·intro y0 y1
   unfold tollref03_Is.j0
   repeat' first
   | (with_reducible exact ih0 _ _)
   | (with_reducible exact ih1 _ _)
   | (with_reducible exact LeO.refl _)
   | (with_reducible exact LeO.none _)
   | (with_reducible refine LeO.ite ?_ ?_)
   | (with_reducible refine LeO.bind ?_ (fun _ => ?_))
   | exact ih0 _ _
   | exact ih1 _ _
   | exact LeO.none _
   | refine LeO.ite ?_ ?_
   | refine LeO.bind ?_ (fun _ => ?_)
  ·intro y0 y1
   unfold tollref03_Is.l0
   repeat' first
   | (with_reducible exact ih0 _ _)
   | (with_reducible exact ih1 _ _)
   | (with_reducible exact LeO.refl _)
   | (with_reducible exact LeO.none _)
   | (with_reducible refine LeO.ite ?_ ?_)
   | (with_reducible refine LeO.bind ?_ (fun _ => ?_))
   | exact ih0 _ _
   | exact ih1 _ _
   | exact LeO.none _
   | refine LeO.ite ?_ ?_
   | refine LeO.bind ?_ (fun _ => ?_)
theorem tollref03_Is.mono : ∀ a0 k, LeO (tollref03_Is.f k a0) (tollref03_Is.f (k + 1) a0) := by
 intro a0 k
 obtain ⟨ih0, ih1⟩ := tollref03_Is.mono_l k
 unfold tollref03_Is.f
 repeat' first
   | (with_reducible exact ih0 _ _)
   | (with_reducible exact ih1 _ _)
   | (with_reducible exact LeO.refl _)
   | (with_reducible exact LeO.none _)
   | (with_reducible refine LeO.ite ?_ ?_)
   | (with_reducible refine LeO.bind ?_ (fun _ => ?_))
   | exact ih0 _ _
   | exact ih1 _ _
   | exact LeO.none _
   | refine LeO.ite ?_ ?_
   | refine LeO.bind ?_ (fun _ => ?_)
set_option maxHeartbeats 8000000 in
set_option maxRecDepth 100000 in
theorem tollref03_Is.calls (k : Nat) (a0 : ByteArray) (r : Bool) (w : World) (h : tollref03_Is.f k a0 = some r) :
  Calls Tryd.prog 19 #[.string a0] w fun e w' => e = .returned (.bool r) ∧ Drawn0 w w' := by
 have H : (if (a0.size : Int) < 1 then (tollref03_Is.j0 k a0 true) else (if (a0.size : Int) > 60 then (tollref03_Is.j0 k a0 true) else (if 0 < (a0.size : Int) then (tollref03_Is.j0 k a0 ((bt a0 0) != 47)) else (none)))) = some r := h
 clear h
 have HC2 := Aside0.mk H
 clear H
 go_enter Tryd.func19, Tryd.ntmps19
 go_upto_region 1 with (fail)
 go_cut [16] (fun v16 wc => ∃ (kq : Nat) (x16_1 : Bool), v16 = .bool x16_1 ∧ Aside0 (tollref03_Is.j0 kq a0 x16_1 = some r) ∧ Aside0 (kq ≤ k) ∧ Drawn0 w wc)
 case first =>
  have H := HC2.out
  clear HC2
  by_cases c3 : (a0.size : Int) < 1
  ·rw [if_pos c3] at H
   have c3b0 : decide ((a0.size : Int) < 1) = true := decide_eq_true c3
   have c3b1 : decide (a0.size < 1) = true := decide_eq_true (by omega)
   clear c3
   (first | rw [c3b0] | rw [c3b1] | rw [c3b2] | (simp only [i64_w, i32_w]; rw [c3b0]) | skip)
   have H' := Aside0.mk H
   clear H
   go_wp2
   go_meet
   case rel => exact ⟨_, (true), sd_, H', ⟨by first | omega | exact Nat.le_refl _⟩, by repeat (first | exact Drawn0.refl _ | apply Drawn0.step)⟩
  ·rw [if_neg c3] at H
   have c3b0 : decide ((a0.size : Int) < 1) = false := decide_eq_false c3
   have c3b1 : decide (a0.size < 1) = false := decide_eq_false (by omega)
   clear c3
   (first | rw [c3b0] | rw [c3b1] | rw [c3b2] | (simp only [i64_w, i32_w]; rw [c3b0]) | skip)
   by_cases c4 : (a0.size : Int) > 60
   ·rw [if_pos c4] at H
    have c4b0 : decide (60 < (a0.size : Int)) = true := decide_eq_true c4
    have c4b1 : decide (60 < a0.size) = true := decide_eq_true (by omega)
    clear c4
    have H' := Aside0.mk H
    clear H
    go_wp2
    go_meet
    case rel => exact ⟨_, (true), sd_, H', ⟨by first | omega | exact Nat.le_refl _⟩, by repeat (first | exact Drawn0.refl _ | apply Drawn0.step)⟩
   ·rw [if_neg c4] at H
    have c4b0 : decide (60 < (a0.size : Int)) = false := decide_eq_false c4
    have c4b1 : decide (60 < a0.size) = false := decide_eq_false (by omega)
    clear c4
    by_cases c5 : 0 < (a0.size : Int)
    ·rw [if_pos c5] at H
     have c5b0 : decide (0 < (a0.size : Int)) = true := decide_eq_true c5
     have c5b1 : decide (0 < a0.size) = true := decide_eq_true (by omega)
     clear c5
     have H' := Aside0.mk H
     clear H
     have p6 : 0 ≤ (0 : Int) := (by omega)
     have q6 : 0 < a0.size := (by have : (0 : Int) < (a0.size : Int) := of_decide_eq_true as_; omega)
     have hx6 : ∀ h : 0 < a0.size, ((a0[0]'h).toNat : Int) = bt a0 0 := bt_at a0 0
     clear p6
     have qi6 : (0 < (a0.size : Int)) = True := eq_true (of_decide_eq_true as_)
     replace q6 := eq_true q6
     go_wp2
     go_meet
     case rel => exact ⟨_, (((bt a0 0) != 47)), sd_, H', ⟨by first | omega | exact Nat.le_refl _⟩, by repeat (first | exact Drawn0.refl _ | apply Drawn0.step)⟩
    ·rw [if_neg c5] at H
     exact absurd H (by simp)
 case rest =>
  clear HC2
  try clear c1
  try clear p2
  try clear c3
  try clear c3b0
  try clear c3b1
  try clear c3b2
  try clear c4
  try clear c4b0
  try clear c4b1
  try clear c5
  try clear c5b0
  try clear c5b1
  try clear p6
  try clear q6
  try clear hx6
  try clear qi6
  try clear p6
  try clear q6
  obtain ⟨kq, x16_1, rfl, HA, HJ1, ⟨mc1, rfl⟩⟩ := hcut
  cases kq with
  | zero => exact absurd HA.out (by simp [tollref03_Is.j0])
  | succ kj1 =>
   have H := HA.out
   clear HA
   simp only [tollref03_Is.j0] at H
   by_cases c7 : x16_1 = true
   ·subst c7
    have H1 : (some false) = some r := by rw [if_pos rfl] at H; exact H
    clear H
    have H := H1
    clear H1
    obtain rfl := Option.some.inj H
    go_wp2
    go_ret
    exact ⟨by first | rfl | (simp; done) | (simp [*]; done) | (simp [bne_nil_isEmpty, beq_nil_isEmpty]; done) | (simp [*, bne_nil_isEmpty, beq_nil_isEmpty]; done), by repeat (first | exact Drawn0.refl _ | apply Drawn0.step)⟩
   ·replace c7 := Bool.eq_false_iff.mpr c7
    subst c7
    have H1 : (tollref03_Is.l0 kj1 a0 0) = some r := by rw [if_neg (show ¬ (false = true) by decide)] at H; exact H
    clear H
    have H := H1
    clear H1
    have H' := Aside0.mk H
    clear H
    go_wp2
    go_loopg [3] kj1 (fun kq v3 w' => ∃ (x3_2 : Int), v3 = .int .i64 x3_2 ∧ Aside0 (tollref03_Is.l0 kq a0 x3_2 = some r) ∧ Aside0 (kq ≤ kj1) ∧ Drawn0 w w')
    case atStart => exact ⟨(0), sd_, H', ⟨Nat.le_refl _⟩, by repeat (first | exact Drawn0.refl _ | apply Drawn0.step)⟩
    case round =>
     clear H'
     try clear c1
     try clear p2
     try clear c3
     try clear c3b0
     try clear c3b1
     try clear c3b2
     try clear c4
     try clear c4b0
     try clear c4b1
     try clear c5
     try clear c5b0
     try clear c5b1
     try clear p6
     try clear q6
     try clear hx6
     try clear qi6
     try clear c7
     try clear p2
     try clear p6
     try clear q6
     obtain ⟨x3_2, rfl, HA, HK2, ⟨m2, rfl⟩⟩ := hrel
     cases gk with
     | zero => exact absurd HA.out (by simp [tollref03_Is.l0])
     | succ k2 =>
      have H := HA.out
      clear HA
      simp only [tollref03_Is.l0] at H
      by_cases c8 : x3_2 < (a0.size : Int)
      ·rw [if_pos c8] at H
       have c8b0 : decide (x3_2 < (a0.size : Int)) = true := decide_eq_true c8
       clear c8
       by_cases c9 : 0 ≤ x3_2
       ·rw [if_pos c9] at H
        have c9b0 : decide (0 ≤ x3_2) = true := decide_eq_true c9
        clear c9
        by_cases c11 : (bt a0 x3_2) < 33
        ·rw [if_pos c11] at H
         have c11b0 : decide ((bt a0 x3_2) < 33) = true := decide_eq_true c11
         clear c11
         obtain rfl := Option.some.inj H
         have p10 : 0 ≤ (x3_2 : Int) := of_decide_eq_true as_
         have q10 : x3_2 < (a0.size : Int) := of_decide_eq_true as_
         have hx10 := bt_at a0 x3_2
         replace p10 := eq_true p10
         replace q10 := eq_true q10
         go_wp2
         go_ret
         exact ⟨by first | rfl | (simp; done) | (simp [*]; done) | (simp [bne_nil_isEmpty, beq_nil_isEmpty]; done) | (simp [*, bne_nil_isEmpty, beq_nil_isEmpty]; done), by repeat (first | exact Drawn0.refl _ | apply Drawn0.step)⟩
        ·rw [if_neg c11] at H
         have c11b0 : decide ((bt a0 x3_2) < 33) = false := decide_eq_false c11
         clear c11
         by_cases c13 : (bt a0 x3_2) > 126
         ·rw [if_pos c13] at H
          have c13b0 : decide (126 < (bt a0 x3_2)) = true := decide_eq_true c13
          clear c13
          obtain rfl := Option.some.inj H
          have p10 : 0 ≤ (x3_2 : Int) := of_decide_eq_true as_
          have q10 : x3_2 < (a0.size : Int) := of_decide_eq_true as_
          have hx10 := bt_at a0 x3_2
          replace p10 := eq_true p10
          replace q10 := eq_true q10
          have p12 : 0 ≤ (x3_2 : Int) := of_decide_eq_true as_
          have q12 : x3_2 < (a0.size : Int) := of_decide_eq_true as_
          have hx12 := bt_at a0 x3_2
          replace p12 := eq_true p12
          replace q12 := eq_true q12
          go_wp2
          go_ret
          exact ⟨by first | rfl | (simp; done) | (simp [*]; done) | (simp [bne_nil_isEmpty, beq_nil_isEmpty]; done) | (simp [*, bne_nil_isEmpty, beq_nil_isEmpty]; done), by repeat (first | exact Drawn0.refl _ | apply Drawn0.step)⟩
         ·rw [if_neg c13] at H
          have c13b0 : decide (126 < (bt a0 x3_2)) = false := decide_eq_false c13
          clear c13
          by_cases c15 : (bt a0 x3_2) = 63
          ·rw [if_pos c15] at H
           have c15b0 : ((bt a0 x3_2) == 63) = true := beq_iff_eq.mpr c15
           have c15b1 : ((bt a0 x3_2) != 63) = false := bne_eq_false_iff_eq.mpr c15
           clear c15
           obtain rfl := Option.some.inj H
           have p10 : 0 ≤ (x3_2 : Int) := of_decide_eq_true as_
           have q10 : x3_2 < (a0.size : Int) := of_decide_eq_true as_
           have hx10 := bt_at a0 x3_2
           replace p10 := eq_true p10
           replace q10 := eq_true q10
           have p12 : 0 ≤ (x3_2 : Int) := of_decide_eq_true as_
           have q12 : x3_2 < (a0.size : Int) := of_decide_eq_true as_
           have hx12 := bt_at a0 x3_2
           replace p12 := eq_true p12
           replace q12 := eq_true q12
           have p14 : 0 ≤ (x3_2 : Int) := of_decide_eq_true as_
           have q14 : x3_2 < (a0.size : Int) := of_decide_eq_true as_
           have hx14 := bt_at a0 x3_2
           replace p14 := eq_true p14
           replace q14 := eq_true q14
           go_wp2
           go_ret
           exact ⟨by first | rfl | (simp; done) | (simp [*]; done) | (simp [bne_nil_isEmpty, beq_nil_isEmpty]; done) | (simp [*, bne_nil_isEmpty, beq_nil_isEmpty]; done), by repeat (first | exact Drawn0.refl _ | apply Drawn0.step)⟩
          ·rw [if_neg c15] at H
           have c15b0 : ((bt a0 x3_2) == 63) = false := beq_eq_false_iff_ne.mpr c15
           have c15b1 : ((bt a0 x3_2) != 63) = true := bne_iff_ne.mpr c15
           by_cases c17 : (bt a0 x3_2) = 35
           ·rw [if_pos c17] at H
            have c17b0 : ((bt a0 x3_2) == 35) = true := beq_iff_eq.mpr c17
            have c17b1 : ((bt a0 x3_2) != 35) = false := bne_eq_false_iff_eq.mpr c17
            clear c17
            obtain rfl := Option.some.inj H
            have p10 : 0 ≤ (x3_2 : Int) := of_decide_eq_true as_
            have q10 : x3_2 < (a0.size : Int) := of_decide_eq_true as_
            have hx10 := bt_at a0 x3_2
            replace p10 := eq_true p10
            replace q10 := eq_true q10
            have p12 : 0 ≤ (x3_2 : Int) := of_decide_eq_true as_
            have q12 : x3_2 < (a0.size : Int) := of_decide_eq_true as_
            have hx12 := bt_at a0 x3_2
            replace p12 := eq_true p12
            replace q12 := eq_true q12
            have p14 : 0 ≤ (x3_2 : Int) := of_decide_eq_true as_
            have q14 : x3_2 < (a0.size : Int) := of_decide_eq_true as_
            have hx14 := bt_at a0 x3_2
            replace p14 := eq_true p14
            replace q14 := eq_true q14
            have p16 : 0 ≤ (x3_2 : Int) := of_decide_eq_true as_
            have q16 : x3_2 < (a0.size : Int) := of_decide_eq_true as_
            have hx16 := bt_at a0 x3_2
            replace p16 := eq_true p16
            replace q16 := eq_true q16
            go_wp2
            go_ret
            exact ⟨by first | rfl | (simp; done) | (simp [*]; done) | (simp [bne_nil_isEmpty, beq_nil_isEmpty]; done) | (simp [*, bne_nil_isEmpty, beq_nil_isEmpty]; done), by repeat (first | exact Drawn0.refl _ | apply Drawn0.step)⟩
           ·rw [if_neg c17] at H
            have c17b0 : ((bt a0 x3_2) == 35) = false := beq_eq_false_iff_ne.mpr c17
            have c17b1 : ((bt a0 x3_2) != 35) = true := bne_iff_ne.mpr c17
            have H' := Aside0.mk H
            clear H
            have p10 : 0 ≤ (x3_2 : Int) := of_decide_eq_true as_
            have q10 : x3_2 < (a0.size : Int) := of_decide_eq_true as_
            have hx10 := bt_at a0 x3_2
            replace p10 := eq_true p10
            replace q10 := eq_true q10
            have p12 : 0 ≤ (x3_2 : Int) := of_decide_eq_true as_
            have q12 : x3_2 < (a0.size : Int) := of_decide_eq_true as_
            have hx12 := bt_at a0 x3_2
            replace p12 := eq_true p12
            replace q12 := eq_true q12
            have p14 : 0 ≤ (x3_2 : Int) := of_decide_eq_true as_
            have q14 : x3_2 < (a0.size : Int) := of_decide_eq_true as_
            have hx14 := bt_at a0 x3_2
            replace p14 := eq_true p14
            replace q14 := eq_true q14
            have p16 : 0 ≤ (x3_2 : Int) := of_decide_eq_true as_
            have q16 : x3_2 < (a0.size : Int) := of_decide_eq_true as_
            have hx16 := bt_at a0 x3_2
            replace p16 := eq_true p16
            replace q16 := eq_true q16
            go_wp2
            go_roundg k2
            case measure => have := HJ1.out; have := HK2.out; omega
            case rel => exact ⟨(wrap64 (x3_2 + 1)), sd_, H', ⟨by have := HJ1.out; have := HK2.out; omega⟩, by repeat (first | exact Drawn0.refl _ | apply Drawn0.step)⟩
       ·rw [if_neg c9] at H
        exact absurd H (by simp)
      ·rw [if_neg c8] at H
       have c8b0 : decide (x3_2 < (a0.size : Int)) = false := decide_eq_false c8
       clear c8
       obtain rfl := Option.some.inj H
       go_wp2
       go_ret
       exact ⟨by first | rfl | (simp; done) | (simp [*]; done) | (simp [bne_nil_isEmpty, beq_nil_isEmpty]; done) | (simp [*, bne_nil_isEmpty, beq_nil_isEmpty]; done), by repeat (first | exact Drawn0.refl _ | apply Drawn0.step)⟩

end Go.Proofs.YtpmllmfamjpinaaDoor.P
