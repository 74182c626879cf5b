-- written by wip/tool/hprint.py of this repo: the kit's print, with contracts by hand joined; Lean checks it.
import Derived.Test.YtpmllmfamjpinaaGreatDoorPx0
namespace Go.Proofs.YtpmllmfamjpinaaGreatDoor.P
open Go.RowKit Go.Proofs.YtpmllmfamjpinaaGreatDoorW.PrintWords Go.Proofs.YtpmllmfamjpinaaGreatDoorW.PrintLast Go.Proofs.YtpmllmfamjpinaaGreatDoorW.PrintMore
attribute [local go_sem] max2_int min2_int max_two min_two max_three min_three max_four min_four   -- for this text's walks alone
set_option linter.unusedVariables false
set_option linter.unusedSimpArgs false

/-! ### tollref05_Token: function 27 -/
mutual
def tollref05_Token.l0 : Nat → ByteArray → Int → Option (Bool)
 | 0, _, _ => none
 | k + 1, x0, x3 => if x3 < (x0.size : Int) then (if 0 ≤ x3 then (if 48 ≤ (bt x0 x3) then (if (bt x0 x3) ≤ 57 then (tollref05_Token.j1 k x0 x3 (bt x0 x3) true) else (if 65 ≤ (bt x0 x3) then (if (bt x0 x3) ≤ 90 then (tollref05_Token.j1 k x0 x3 (bt x0 x3) true) else (if 97 ≤ (bt x0 x3) then (tollref05_Token.j1 k x0 x3 (bt x0 x3) (decide ((bt x0 x3) ≤ 122))) else (tollref05_Token.j1 k x0 x3 (bt x0 x3) false))) else (if 97 ≤ (bt x0 x3) then (tollref05_Token.j1 k x0 x3 (bt x0 x3) (decide ((bt x0 x3) ≤ 122))) else (tollref05_Token.j1 k x0 x3 (bt x0 x3) false)))) else (if 65 ≤ (bt x0 x3) then (if (bt x0 x3) ≤ 90 then (tollref05_Token.j1 k x0 x3 (bt x0 x3) true) else (if 97 ≤ (bt x0 x3) then (tollref05_Token.j1 k x0 x3 (bt x0 x3) (decide ((bt x0 x3) ≤ 122))) else (tollref05_Token.j1 k x0 x3 (bt x0 x3) false))) else (if 97 ≤ (bt x0 x3) then (tollref05_Token.j1 k x0 x3 (bt x0 x3) (decide ((bt x0 x3) ≤ 122))) else (tollref05_Token.j1 k x0 x3 (bt x0 x3) false)))) else (none)) else (if 1 ≤ (x0.size : Int) then (some (decide ((x0.size : Int) ≤ 40))) else (some false))
def tollref05_Token.j1 : Nat → ByteArray → Int → Int → Bool → Option (Bool)
 | 0, _, _, _, _ => none
 | k + 1, x0, x3, x4, x5 => if x4 = 33 then (tollref05_Token.j2 k x0 x3 x5 (x4 == 33)) else (if x4 = 35 then (tollref05_Token.j2 k x0 x3 x5 (x4 == 35)) else (if x4 = 36 then (tollref05_Token.j2 k x0 x3 x5 (x4 == 36)) else (if x4 = 37 then (tollref05_Token.j2 k x0 x3 x5 (x4 == 37)) else (if x4 = 38 then (tollref05_Token.j2 k x0 x3 x5 (x4 == 38)) else (if x4 = 39 then (tollref05_Token.j2 k x0 x3 x5 (x4 == 39)) else (if x4 = 42 then (tollref05_Token.j2 k x0 x3 x5 (x4 == 42)) else (if x4 = 43 then (tollref05_Token.j2 k x0 x3 x5 (x4 == 43)) else (if x4 = 45 then (tollref05_Token.j2 k x0 x3 x5 (x4 == 45)) else (if x4 = 46 then (tollref05_Token.j2 k x0 x3 x5 (x4 == 46)) else (if x4 = 94 then (tollref05_Token.j2 k x0 x3 x5 (x4 == 94)) else (if x4 = 95 then (tollref05_Token.j2 k x0 x3 x5 (x4 == 95)) else (if x4 = 96 then (tollref05_Token.j2 k x0 x3 x5 (x4 == 96)) else (if x4 = 124 then (tollref05_Token.j2 k x0 x3 x5 (x4 == 124)) else (tollref05_Token.j2 k x0 x3 x5 (x4 == 126)))))))))))))))
def tollref05_Token.j2 : Nat → ByteArray → Int → Bool → Bool → Option (Bool)
 | 0, _, _, _, _ => none
 | k + 1, x0, x3, x5, x38 => if x38 = true then (tollref05_Token.l0 k x0 (wrap64 (x3 + 1))) else (if x5 = true then (tollref05_Token.l0 k x0 (wrap64 (x3 + 1))) else (some false))
end
def tollref05_Token.f (k : Nat) (a0 : ByteArray) : Option (Bool) := tollref05_Token.l0 k a0 0
theorem tollref05_Token.mono_l : ∀ k, (∀ y0 y1, LeO (tollref05_Token.l0 k y0 y1) (tollref05_Token.l0 (k + 1) y0 y1)) ∧ (∀ y0 y1 y2 y3, LeO (tollref05_Token.j1 k y0 y1 y2 y3) (tollref05_Token.j1 (k + 1) y0 y1 y2 y3)) ∧ (∀ y0 y1 y2 y3, LeO (tollref05_Token.j2 k y0 y1 y2 y3) (tollref05_Token.j2 (k + 1) y0 y1 y2 y3))
 | 0 => ⟨fun _ _ r h => by simp [tollref05_Token.l0] at h, fun _ _ _ _ r h => by simp [tollref05_Token.j1] at h, fun _ _ _ _ r h => by simp [tollref05_Token.j2] at h⟩
 | k + 1 => by
  obtain ⟨ih0, ih1, ih2⟩ := tollref05_Token.mono_l k
  refine ⟨?_, ?_, ?_⟩
  ·intro y0 y1
   unfold tollref05_Token.l0
   repeat' first
   | (with_reducible exact ih0 _ _)
   | (with_reducible exact ih1 _ _ _ _)
   | (with_reducible exact ih2 _ _ _ _)
   | (with_reducible exact LeO.refl _)
   | (with_reducible exact LeO.none _)
   | (with_reducible refine LeO.ite ?_ ?_)
   | (with_reducible refine LeO.bind ?_ (fun _ => ?_))
   | exact ih0 _ _
   | exact ih1 _ _ _ _
   | exact ih2 _ _ _ _
   | exact LeO.none _
   | refine LeO.ite ?_ ?_
   | refine LeO.bind ?_ (fun _ => ?_)
  ·intro y0 y1 y2 y3
   unfold tollref05_Token.j1
   repeat' first
   | (with_reducible exact ih0 _ _)
   | (with_reducible exact ih1 _ _ _ _)
   | (with_reducible exact ih2 _ _ _ _)
   | (with_reducible exact LeO.refl _)
   | (with_reducible exact LeO.none _)
   | (with_reducible refine LeO.ite ?_ ?_)
   | (with_reducible refine LeO.bind ?_ (fun _ => ?_))
   | exact ih0 _ _
   | exact ih1 _ _ _ _
   | exact ih2 _ _ _ _
   | exact LeO.none _
   | refine LeO.ite ?_ ?_
   | refine LeO.bind ?_ (fun _ => ?_)
  ·intro y0 y1 y2 y3
   unfold tollref05_Token.j2
   repeat' first
   | (with_reducible exact ih0 _ _)
   | (with_reducible exact ih1 _ _ _ _)
   | (with_reducible exact ih2 _ _ _ _)
   | (with_reducible exact LeO.refl _)
   | (with_reducible exact LeO.none _)
   | (with_reducible refine LeO.ite ?_ ?_)
   | (with_reducible refine LeO.bind ?_ (fun _ => ?_))
   | exact ih0 _ _
   | exact ih1 _ _ _ _
   | exact ih2 _ _ _ _
   | exact LeO.none _
   | refine LeO.ite ?_ ?_
   | refine LeO.bind ?_ (fun _ => ?_)
theorem tollref05_Token.mono : ∀ a0 k, LeO (tollref05_Token.f k a0) (tollref05_Token.f (k + 1) a0) := by
 intro a0 k
 obtain ⟨ih0, ih1, ih2⟩ := tollref05_Token.mono_l k
 unfold tollref05_Token.f
 repeat' first
   | (with_reducible exact ih0 _ _)
   | (with_reducible exact ih1 _ _ _ _)
   | (with_reducible exact ih2 _ _ _ _)
   | (with_reducible exact LeO.refl _)
   | (with_reducible exact LeO.none _)
   | (with_reducible refine LeO.ite ?_ ?_)
   | (with_reducible refine LeO.bind ?_ (fun _ => ?_))
   | exact ih0 _ _
   | exact ih1 _ _ _ _
   | exact ih2 _ _ _ _
   | exact LeO.none _
   | refine LeO.ite ?_ ?_
   | refine LeO.bind ?_ (fun _ => ?_)
set_option maxHeartbeats 8000000 in
set_option maxRecDepth 100000 in
theorem tollref05_Token.calls (k : Nat) (a0 : ByteArray) (r : Bool) (w : World) (h : tollref05_Token.f k a0 = some r) :
  Calls Tryz.prog 27 #[.string a0] w fun e w' => e = .returned (.bool r) ∧ Drawn0 w w' := by
 have H : (tollref05_Token.l0 k a0 0) = some r := h;clear h;have H' := Aside0.mk H;clear H;go_enter Tryz.func27, Tryz.ntmps27
 go_wp2
 go_loopg [3] k (fun kq v3 w' => ∃ (x3_1 : Int), v3 = .int .i64 x3_1 ∧ Aside0 (tollref05_Token.l0 kq a0 x3_1 = some r) ∧ Aside0 (kq ≤ k) ∧ Drawn0 w w')
 case atStart => exact ⟨(0), sd_, H', ⟨Nat.le_refl _⟩, by repeat (first | exact Drawn0.refl _ | apply Drawn0.step)⟩
 case round =>
  clear H';obtain ⟨x3_1, rfl, HA, HK1, ⟨m1, rfl⟩⟩ := hrel;cases gk with
  | zero => exact absurd HA.out (by simp [tollref05_Token.l0])
  | succ k1 =>
   have H := HA.out;clear HA;simp only [tollref05_Token.l0] at H;by_cases c2 : x3_1 < (a0.size : Int)
   ·rw [if_pos c2] at H
    have c2b0 : decide (x3_1 < (a0.size : Int)) = true := decide_eq_true c2;clear c2;by_cases c3 : 0 ≤ x3_1
    ·rw [if_pos c3] at H
     have c3b0 : decide (0 ≤ x3_1) = true := decide_eq_true c3;clear c3;have HC5 := Aside0.mk H;clear H;have p4 : 0 ≤ (x3_1 : Int) := of_decide_eq_true as_;have q4 : x3_1 < (a0.size : Int) := of_decide_eq_true as_;have hx4 := bt_at a0 x3_1;replace p4 := eq_true p4;replace q4 := eq_true q4;go_upto_region 5 with (fail)
     go_cut [5] (fun v5 wc => ∃ (kq : Nat) (x5_4 : Bool), v5 = .bool x5_4 ∧ Aside0 (tollref05_Token.j1 kq a0 x3_1 (bt a0 x3_1) x5_4 = some r) ∧ Aside0 (kq ≤ k1) ∧ Drawn0 w wc)
     case first =>
      have H := HC5.out;clear HC5;by_cases c6 : 48 ≤ (bt a0 x3_1)
      ·rw [if_pos c6] at H
       have c6b0 : decide (48 ≤ (bt a0 x3_1)) = true := decide_eq_true c6;clear c6;(first | rw [c6b0] | rw [c6b1] | rw [c6b2] | (simp only [i64_w, i32_w]; rw [c6b0]) | skip);by_cases c7 : (bt a0 x3_1) ≤ 57
       ·rw [if_pos c7] at H
        have c7b0 : decide ((bt a0 x3_1) ≤ 57) = true := decide_eq_true c7;clear c7;have H' := Aside0.mk H;clear H;go_wp2
        go_meet
        case rel => exact ⟨_, (true), sd_, H', ⟨by have := HK1.out; first | omega | exact Nat.le_refl _⟩, by repeat (first | exact Drawn0.refl _ | apply Drawn0.step)⟩
       ·rw [if_neg c7] at H
        have c7b0 : decide ((bt a0 x3_1) ≤ 57) = false := decide_eq_false c7;clear c7;by_cases c8 : 65 ≤ (bt a0 x3_1)
        ·rw [if_pos c8] at H
         have c8b0 : decide (65 ≤ (bt a0 x3_1)) = true := decide_eq_true c8;clear c8;by_cases c9 : (bt a0 x3_1) ≤ 90
         ·rw [if_pos c9] at H
          have c9b0 : decide ((bt a0 x3_1) ≤ 90) = true := decide_eq_true c9;clear c9;have H' := Aside0.mk H;clear H;go_wp2
          go_meet
          case rel => exact ⟨_, (true), sd_, H', ⟨by have := HK1.out; first | omega | exact Nat.le_refl _⟩, by repeat (first | exact Drawn0.refl _ | apply Drawn0.step)⟩
         ·rw [if_neg c9] at H
          have c9b0 : decide ((bt a0 x3_1) ≤ 90) = false := decide_eq_false c9;clear c9;by_cases c10 : 97 ≤ (bt a0 x3_1)
          ·rw [if_pos c10] at H
           have c10b0 : decide (97 ≤ (bt a0 x3_1)) = true := decide_eq_true c10;clear c10;have H' := Aside0.mk H;clear H;go_wp2
           go_meet
           case rel => exact ⟨_, (decide ((bt a0 x3_1) ≤ 122)), sd_, H', ⟨by have := HK1.out; first | omega | exact Nat.le_refl _⟩, by repeat (first | exact Drawn0.refl _ | apply Drawn0.step)⟩
          ·rw [if_neg c10] at H
           have c10b0 : decide (97 ≤ (bt a0 x3_1)) = false := decide_eq_false c10;clear c10;have H' := Aside0.mk H;clear H;go_wp2
           go_meet
           case rel => exact ⟨_, (false), sd_, H', ⟨by have := HK1.out; first | omega | exact Nat.le_refl _⟩, by repeat (first | exact Drawn0.refl _ | apply Drawn0.step)⟩
        ·rw [if_neg c8] at H
         have c8b0 : decide (65 ≤ (bt a0 x3_1)) = false := decide_eq_false c8;clear c8;by_cases c11 : 97 ≤ (bt a0 x3_1)
         ·rw [if_pos c11] at H
          have c11b0 : decide (97 ≤ (bt a0 x3_1)) = true := decide_eq_true c11;clear c11;have H' := Aside0.mk H;clear H;go_wp2
          go_meet
          case rel => exact ⟨_, (decide ((bt a0 x3_1) ≤ 122)), sd_, H', ⟨by have := HK1.out; first | omega | exact Nat.le_refl _⟩, by repeat (first | exact Drawn0.refl _ | apply Drawn0.step)⟩
         ·rw [if_neg c11] at H
          have c11b0 : decide (97 ≤ (bt a0 x3_1)) = false := decide_eq_false c11;clear c11;have H' := Aside0.mk H;clear H;go_wp2
          go_meet
          case rel => exact ⟨_, (false), sd_, H', ⟨by have := HK1.out; first | omega | exact Nat.le_refl _⟩, by repeat (first | exact Drawn0.refl _ | apply Drawn0.step)⟩
      ·rw [if_neg c6] at H
       have c6b0 : decide (48 ≤ (bt a0 x3_1)) = false := decide_eq_false c6;clear c6;(first | rw [c6b0] | rw [c6b1] | rw [c6b2] | (simp only [i64_w, i32_w]; rw [c6b0]) | skip);by_cases c12 : 65 ≤ (bt a0 x3_1)
       ·rw [if_pos c12] at H
        have c12b0 : decide (65 ≤ (bt a0 x3_1)) = true := decide_eq_true c12;clear c12;by_cases c13 : (bt a0 x3_1) ≤ 90
        ·rw [if_pos c13] at H
         have c13b0 : decide ((bt a0 x3_1) ≤ 90) = true := decide_eq_true c13;clear c13;have H' := Aside0.mk H;clear H;go_wp2
         go_meet
         case rel => exact ⟨_, (true), sd_, H', ⟨by have := HK1.out; first | omega | exact Nat.le_refl _⟩, by repeat (first | exact Drawn0.refl _ | apply Drawn0.step)⟩
        ·rw [if_neg c13] at H
         have c13b0 : decide ((bt a0 x3_1) ≤ 90) = false := decide_eq_false c13;clear c13;by_cases c14 : 97 ≤ (bt a0 x3_1)
         ·rw [if_pos c14] at H
          have c14b0 : decide (97 ≤ (bt a0 x3_1)) = true := decide_eq_true c14;clear c14;have H' := Aside0.mk H;clear H;go_wp2
          go_meet
          case rel => exact ⟨_, (decide ((bt a0 x3_1) ≤ 122)), sd_, H', ⟨by have := HK1.out; first | omega | exact Nat.le_refl _⟩, by repeat (first | exact Drawn0.refl _ | apply Drawn0.step)⟩
         ·rw [if_neg c14] at H
          have c14b0 : decide (97 ≤ (bt a0 x3_1)) = false := decide_eq_false c14;clear c14;have H' := Aside0.mk H;clear H;go_wp2
          go_meet
          case rel => exact ⟨_, (false), sd_, H', ⟨by have := HK1.out; first | omega | exact Nat.le_refl _⟩, by repeat (first | exact Drawn0.refl _ | apply Drawn0.step)⟩
       ·rw [if_neg c12] at H
        have c12b0 : decide (65 ≤ (bt a0 x3_1)) = false := decide_eq_false c12;clear c12;by_cases c15 : 97 ≤ (bt a0 x3_1)
        ·rw [if_pos c15] at H
         have c15b0 : decide (97 ≤ (bt a0 x3_1)) = true := decide_eq_true c15;clear c15;have H' := Aside0.mk H;clear H;go_wp2
         go_meet
         case rel => exact ⟨_, (decide ((bt a0 x3_1) ≤ 122)), sd_, H', ⟨by have := HK1.out; first | omega | exact Nat.le_refl _⟩, by repeat (first | exact Drawn0.refl _ | apply Drawn0.step)⟩
        ·rw [if_neg c15] at H
         have c15b0 : decide (97 ≤ (bt a0 x3_1)) = false := decide_eq_false c15;clear c15;have H' := Aside0.mk H;clear H;go_wp2
         go_meet
         case rel => exact ⟨_, (false), sd_, H', ⟨by have := HK1.out; first | omega | exact Nat.le_refl _⟩, by repeat (first | exact Drawn0.refl _ | apply Drawn0.step)⟩
     case rest =>
      clear HC5;try clear c1
      try clear c2
      try clear c2b0
      try clear p2
      try clear c3
      try clear c3b0
      try clear p4
      try clear q4
      try clear hx4
      try clear c6
      try clear c6b0
      try clear c6b1
      try clear c6b2
      try clear c7
      try clear c7b0
      try clear c8
      try clear c8b0
      try clear c9
      try clear c9b0
      try clear c10
      try clear c10b0
      try clear c11
      try clear c11b0
      try clear c12
      try clear c12b0
      try clear c13
      try clear c13b0
      try clear c14
      try clear c14b0
      try clear c15
      try clear c15b0
      try clear p4
      try clear q4
      obtain ⟨kq, x5_4, rfl, HA, HJ4, ⟨mc4, rfl⟩⟩ := hcut;cases kq with
      | zero => exact absurd HA.out (by simp [tollref05_Token.j1])
      | succ kj4 =>
       have H := HA.out;clear HA;simp only [tollref05_Token.j1] at H;have HC16 := Aside0.mk H;clear H;go_upto_if 38 with (fail)
       go_cut [38] (fun pa wc => ∃ (kq : Nat) (x38_15 : Bool), pa = .bool x38_15 ∧ Aside0 (tollref05_Token.j2 kq a0 x3_1 x5_4 x38_15 = some r) ∧ Aside0 (kq ≤ kj4) ∧ Drawn0 w wc)
       case first =>
        have H := HC16.out;clear HC16;by_cases c17 : (bt a0 x3_1) = 33
        ·rw [if_pos c17] at H
         have c17b0 : ((bt a0 x3_1) == 33) = true := beq_iff_eq.mpr c17;have c17b1 : ((bt a0 x3_1) != 33) = false := bne_eq_false_iff_eq.mpr c17;clear c17;(first | rw [c17b0] | rw [c17b1] | rw [c17b2] | (simp only [i64_w, i32_w]; rw [c17b0]) | skip);have H' := Aside0.mk H;clear H;go_wp2
         go_meet
         case rel => exact ⟨_, (((bt a0 x3_1) == 33)), sd_, H', ⟨by have := HK1.out; have := HJ4.out; first | omega | exact Nat.le_refl _⟩, by repeat (first | exact Drawn0.refl _ | apply Drawn0.step)⟩
        ·rw [if_neg c17] at H
         have c17b0 : ((bt a0 x3_1) == 33) = false := beq_eq_false_iff_ne.mpr c17;have c17b1 : ((bt a0 x3_1) != 33) = true := bne_iff_ne.mpr c17;(first | rw [c17b0] | rw [c17b1] | rw [c17b2] | (simp only [i64_w, i32_w]; rw [c17b0]) | skip);by_cases c18 : (bt a0 x3_1) = 35
         ·rw [if_pos c18] at H
          have c18b0 : ((bt a0 x3_1) == 35) = true := beq_iff_eq.mpr c18;have c18b1 : ((bt a0 x3_1) != 35) = false := bne_eq_false_iff_eq.mpr c18;clear c18;have H' := Aside0.mk H;clear H;go_wp2
          go_meet
          case rel => exact ⟨_, (((bt a0 x3_1) == 35)), sd_, H', ⟨by have := HK1.out; have := HJ4.out; first | omega | exact Nat.le_refl _⟩, by repeat (first | exact Drawn0.refl _ | apply Drawn0.step)⟩
         ·rw [if_neg c18] at H
          have c18b0 : ((bt a0 x3_1) == 35) = false := beq_eq_false_iff_ne.mpr c18;have c18b1 : ((bt a0 x3_1) != 35) = true := bne_iff_ne.mpr c18;by_cases c19 : (bt a0 x3_1) = 36
          ·rw [if_pos c19] at H
           have c19b0 : ((bt a0 x3_1) == 36) = true := beq_iff_eq.mpr c19;have c19b1 : ((bt a0 x3_1) != 36) = false := bne_eq_false_iff_eq.mpr c19;clear c19;have H' := Aside0.mk H;clear H;go_wp2
           go_meet
           case rel => exact ⟨_, (((bt a0 x3_1) == 36)), sd_, H', ⟨by have := HK1.out; have := HJ4.out; first | omega | exact Nat.le_refl _⟩, by repeat (first | exact Drawn0.refl _ | apply Drawn0.step)⟩
          ·rw [if_neg c19] at H
           have c19b0 : ((bt a0 x3_1) == 36) = false := beq_eq_false_iff_ne.mpr c19;have c19b1 : ((bt a0 x3_1) != 36) = true := bne_iff_ne.mpr c19;by_cases c20 : (bt a0 x3_1) = 37
           ·rw [if_pos c20] at H
            have c20b0 : ((bt a0 x3_1) == 37) = true := beq_iff_eq.mpr c20;have c20b1 : ((bt a0 x3_1) != 37) = false := bne_eq_false_iff_eq.mpr c20;clear c20;have H' := Aside0.mk H;clear H;go_wp2
            go_meet
            case rel => exact ⟨_, (((bt a0 x3_1) == 37)), sd_, H', ⟨by have := HK1.out; have := HJ4.out; first | omega | exact Nat.le_refl _⟩, by repeat (first | exact Drawn0.refl _ | apply Drawn0.step)⟩
           ·rw [if_neg c20] at H
            have c20b0 : ((bt a0 x3_1) == 37) = false := beq_eq_false_iff_ne.mpr c20;have c20b1 : ((bt a0 x3_1) != 37) = true := bne_iff_ne.mpr c20;by_cases c21 : (bt a0 x3_1) = 38
            ·rw [if_pos c21] at H
             have c21b0 : ((bt a0 x3_1) == 38) = true := beq_iff_eq.mpr c21;have c21b1 : ((bt a0 x3_1) != 38) = false := bne_eq_false_iff_eq.mpr c21;clear c21;have H' := Aside0.mk H;clear H;go_wp2
             go_meet
             case rel => exact ⟨_, (((bt a0 x3_1) == 38)), sd_, H', ⟨by have := HK1.out; have := HJ4.out; first | omega | exact Nat.le_refl _⟩, by repeat (first | exact Drawn0.refl _ | apply Drawn0.step)⟩
            ·rw [if_neg c21] at H
             have c21b0 : ((bt a0 x3_1) == 38) = false := beq_eq_false_iff_ne.mpr c21;have c21b1 : ((bt a0 x3_1) != 38) = true := bne_iff_ne.mpr c21;by_cases c22 : (bt a0 x3_1) = 39
             ·rw [if_pos c22] at H
              have c22b0 : ((bt a0 x3_1) == 39) = true := beq_iff_eq.mpr c22;have c22b1 : ((bt a0 x3_1) != 39) = false := bne_eq_false_iff_eq.mpr c22;clear c22;have H' := Aside0.mk H;clear H;go_wp2
              go_meet
              case rel => exact ⟨_, (((bt a0 x3_1) == 39)), sd_, H', ⟨by have := HK1.out; have := HJ4.out; first | omega | exact Nat.le_refl _⟩, by repeat (first | exact Drawn0.refl _ | apply Drawn0.step)⟩
             ·rw [if_neg c22] at H
              have c22b0 : ((bt a0 x3_1) == 39) = false := beq_eq_false_iff_ne.mpr c22;have c22b1 : ((bt a0 x3_1) != 39) = true := bne_iff_ne.mpr c22;by_cases c23 : (bt a0 x3_1) = 42
              ·rw [if_pos c23] at H
               have c23b0 : ((bt a0 x3_1) == 42) = true := beq_iff_eq.mpr c23;have c23b1 : ((bt a0 x3_1) != 42) = false := bne_eq_false_iff_eq.mpr c23;clear c23;have H' := Aside0.mk H;clear H;go_wp2
               go_meet
               case rel => exact ⟨_, (((bt a0 x3_1) == 42)), sd_, H', ⟨by have := HK1.out; have := HJ4.out; first | omega | exact Nat.le_refl _⟩, by repeat (first | exact Drawn0.refl _ | apply Drawn0.step)⟩
              ·rw [if_neg c23] at H
               have c23b0 : ((bt a0 x3_1) == 42) = false := beq_eq_false_iff_ne.mpr c23;have c23b1 : ((bt a0 x3_1) != 42) = true := bne_iff_ne.mpr c23;by_cases c24 : (bt a0 x3_1) = 43
               ·rw [if_pos c24] at H
                have c24b0 : ((bt a0 x3_1) == 43) = true := beq_iff_eq.mpr c24;have c24b1 : ((bt a0 x3_1) != 43) = false := bne_eq_false_iff_eq.mpr c24;clear c24;have H' := Aside0.mk H;clear H;go_wp2
                go_meet
                case rel => exact ⟨_, (((bt a0 x3_1) == 43)), sd_, H', ⟨by have := HK1.out; have := HJ4.out; first | omega | exact Nat.le_refl _⟩, by repeat (first | exact Drawn0.refl _ | apply Drawn0.step)⟩
               ·rw [if_neg c24] at H
                have c24b0 : ((bt a0 x3_1) == 43) = false := beq_eq_false_iff_ne.mpr c24;have c24b1 : ((bt a0 x3_1) != 43) = true := bne_iff_ne.mpr c24;by_cases c25 : (bt a0 x3_1) = 45
                ·rw [if_pos c25] at H
                 have c25b0 : ((bt a0 x3_1) == 45) = true := beq_iff_eq.mpr c25;have c25b1 : ((bt a0 x3_1) != 45) = false := bne_eq_false_iff_eq.mpr c25;clear c25;have H' := Aside0.mk H;clear H;go_wp2
                 go_meet
                 case rel => exact ⟨_, (((bt a0 x3_1) == 45)), sd_, H', ⟨by have := HK1.out; have := HJ4.out; first | omega | exact Nat.le_refl _⟩, by repeat (first | exact Drawn0.refl _ | apply Drawn0.step)⟩
                ·rw [if_neg c25] at H
                 have c25b0 : ((bt a0 x3_1) == 45) = false := beq_eq_false_iff_ne.mpr c25;have c25b1 : ((bt a0 x3_1) != 45) = true := bne_iff_ne.mpr c25;by_cases c26 : (bt a0 x3_1) = 46
                 ·rw [if_pos c26] at H
                  have c26b0 : ((bt a0 x3_1) == 46) = true := beq_iff_eq.mpr c26;have c26b1 : ((bt a0 x3_1) != 46) = false := bne_eq_false_iff_eq.mpr c26;clear c26;have H' := Aside0.mk H;clear H;go_wp2
                  go_meet
                  case rel => exact ⟨_, (((bt a0 x3_1) == 46)), sd_, H', ⟨by have := HK1.out; have := HJ4.out; first | omega | exact Nat.le_refl _⟩, by repeat (first | exact Drawn0.refl _ | apply Drawn0.step)⟩
                 ·rw [if_neg c26] at H
                  have c26b0 : ((bt a0 x3_1) == 46) = false := beq_eq_false_iff_ne.mpr c26;have c26b1 : ((bt a0 x3_1) != 46) = true := bne_iff_ne.mpr c26;by_cases c27 : (bt a0 x3_1) = 94
                  ·rw [if_pos c27] at H
                   have c27b0 : ((bt a0 x3_1) == 94) = true := beq_iff_eq.mpr c27;have c27b1 : ((bt a0 x3_1) != 94) = false := bne_eq_false_iff_eq.mpr c27;clear c27;have H' := Aside0.mk H;clear H;go_wp2
                   go_meet
                   case rel => exact ⟨_, (((bt a0 x3_1) == 94)), sd_, H', ⟨by have := HK1.out; have := HJ4.out; first | omega | exact Nat.le_refl _⟩, by repeat (first | exact Drawn0.refl _ | apply Drawn0.step)⟩
                  ·rw [if_neg c27] at H
                   have c27b0 : ((bt a0 x3_1) == 94) = false := beq_eq_false_iff_ne.mpr c27;have c27b1 : ((bt a0 x3_1) != 94) = true := bne_iff_ne.mpr c27;by_cases c28 : (bt a0 x3_1) = 95
                   ·rw [if_pos c28] at H
                    have c28b0 : ((bt a0 x3_1) == 95) = true := beq_iff_eq.mpr c28;have c28b1 : ((bt a0 x3_1) != 95) = false := bne_eq_false_iff_eq.mpr c28;clear c28;have H' := Aside0.mk H;clear H;go_wp2
                    go_meet
                    case rel => exact ⟨_, (((bt a0 x3_1) == 95)), sd_, H', ⟨by have := HK1.out; have := HJ4.out; first | omega | exact Nat.le_refl _⟩, by repeat (first | exact Drawn0.refl _ | apply Drawn0.step)⟩
                   ·rw [if_neg c28] at H
                    have c28b0 : ((bt a0 x3_1) == 95) = false := beq_eq_false_iff_ne.mpr c28;have c28b1 : ((bt a0 x3_1) != 95) = true := bne_iff_ne.mpr c28;by_cases c29 : (bt a0 x3_1) = 96
                    ·rw [if_pos c29] at H
                     have c29b0 : ((bt a0 x3_1) == 96) = true := beq_iff_eq.mpr c29;have c29b1 : ((bt a0 x3_1) != 96) = false := bne_eq_false_iff_eq.mpr c29;clear c29;have H' := Aside0.mk H;clear H;go_wp2
                     go_meet
                     case rel => exact ⟨_, (((bt a0 x3_1) == 96)), sd_, H', ⟨by have := HK1.out; have := HJ4.out; first | omega | exact Nat.le_refl _⟩, by repeat (first | exact Drawn0.refl _ | apply Drawn0.step)⟩
                    ·rw [if_neg c29] at H
                     have c29b0 : ((bt a0 x3_1) == 96) = false := beq_eq_false_iff_ne.mpr c29;have c29b1 : ((bt a0 x3_1) != 96) = true := bne_iff_ne.mpr c29;by_cases c30 : (bt a0 x3_1) = 124
                     ·rw [if_pos c30] at H
                      have c30b0 : ((bt a0 x3_1) == 124) = true := beq_iff_eq.mpr c30;have c30b1 : ((bt a0 x3_1) != 124) = false := bne_eq_false_iff_eq.mpr c30;clear c30;have H' := Aside0.mk H;clear H;go_wp2
                      go_meet
                      case rel => exact ⟨_, (((bt a0 x3_1) == 124)), sd_, H', ⟨by have := HK1.out; have := HJ4.out; first | omega | exact Nat.le_refl _⟩, by repeat (first | exact Drawn0.refl _ | apply Drawn0.step)⟩
                     ·rw [if_neg c30] at H
                      have c30b0 : ((bt a0 x3_1) == 124) = false := beq_eq_false_iff_ne.mpr c30;have c30b1 : ((bt a0 x3_1) != 124) = true := bne_iff_ne.mpr c30;have H' := Aside0.mk H;clear H;go_wp2
                      go_meet
                      case rel => exact ⟨_, (((bt a0 x3_1) == 126)), sd_, H', ⟨by have := HK1.out; have := HJ4.out; first | omega | exact Nat.le_refl _⟩, by repeat (first | exact Drawn0.refl _ | apply Drawn0.step)⟩
       case rest =>
        clear HC16;try clear c1
        try clear c2
        try clear c2b0
        try clear p2
        try clear c3
        try clear c3b0
        try clear c4
        try clear p4
        try clear q4
        try clear hx4
        try clear c6
        try clear c6b0
        try clear c6b1
        try clear c6b2
        try clear c7
        try clear c7b0
        try clear c8
        try clear c8b0
        try clear c9
        try clear c9b0
        try clear c10
        try clear c10b0
        try clear c11
        try clear c11b0
        try clear c12
        try clear c12b0
        try clear c13
        try clear c13b0
        try clear c14
        try clear c14b0
        try clear c15
        try clear c15b0
        try clear c17
        try clear c17b0
        try clear c17b1
        try clear c17b2
        try clear c18
        try clear c18b0
        try clear c18b1
        try clear c19
        try clear c19b0
        try clear c19b1
        try clear c20
        try clear c20b0
        try clear c20b1
        try clear c21
        try clear c21b0
        try clear c21b1
        try clear c22
        try clear c22b0
        try clear c22b1
        try clear c23
        try clear c23b0
        try clear c23b1
        try clear c24
        try clear c24b0
        try clear c24b1
        try clear c25
        try clear c25b0
        try clear c25b1
        try clear c26
        try clear c26b0
        try clear c26b1
        try clear c27
        try clear c27b0
        try clear c27b1
        try clear c28
        try clear c28b0
        try clear c28b1
        try clear c29
        try clear c29b0
        try clear c29b1
        try clear c30
        try clear c30b0
        try clear c30b1
        try clear p2
        try clear p4
        try clear q4
        obtain ⟨kq, x38_15, rfl, HA, HJ15, ⟨mc15, rfl⟩⟩ := hcut;cases kq with
        | zero => exact absurd HA.out (by simp [tollref05_Token.j2])
        | succ kj15 =>
         have H := HA.out;clear HA;simp only [tollref05_Token.j2] at H;by_cases c31 : x38_15 = true
         ·subst c31
          have H1 : (tollref05_Token.l0 kj15 a0 (wrap64 (x3_1 + 1))) = some r := by rw [if_pos rfl] at H; exact H
          clear H;have H := H1;clear H1;have H' := Aside0.mk H;clear H;go_wp2
          go_roundg kj15
          case measure => have := HK1.out; have := HJ4.out; have := HJ15.out; omega
          case rel => exact ⟨(wrap64 (x3_1 + 1)), sd_, H', ⟨by have := HK1.out; have := HJ4.out; have := HJ15.out; omega⟩, by repeat (first | exact Drawn0.refl _ | apply Drawn0.step)⟩
         ·replace c31 := Bool.eq_false_iff.mpr c31
          subst c31;have H1 : (if x5_4 = true then (tollref05_Token.l0 kj15 a0 (wrap64 (x3_1 + 1))) else (some false)) = some r := by rw [if_neg (show ¬ (false = true) by decide)] at H; exact H
          clear H;have H := H1;clear H1;by_cases c32 : x5_4 = true
          ·subst c32
           have H1 : (tollref05_Token.l0 kj15 a0 (wrap64 (x3_1 + 1))) = some r := by rw [if_pos rfl] at H; exact H
           clear H;have H := H1;clear H1;have H' := Aside0.mk H;clear H;go_wp2
           go_roundg kj15
           case measure => have := HK1.out; have := HJ4.out; have := HJ15.out; omega
           case rel => exact ⟨(wrap64 (x3_1 + 1)), sd_, H', ⟨by have := HK1.out; have := HJ4.out; have := HJ15.out; omega⟩, by repeat (first | exact Drawn0.refl _ | apply Drawn0.step)⟩
          ·replace c32 := Bool.eq_false_iff.mpr c32
           subst c32;have H1 : (some false) = some r := by rw [if_neg (show ¬ (false = true) by decide)] at H; exact H
           clear H;have H := H1;clear H1;obtain rfl := Option.some.inj H;go_wp2
           go_ret
           exact ⟨by first | rfl | (simp; done) | (simp [*]; done) | (simp [bne_nil_isEmpty, beq_nil_isEmpty]; done) | (simp [*, bne_nil_isEmpty, beq_nil_isEmpty]; done), by repeat (first | exact Drawn0.refl _ | apply Drawn0.step)⟩
    ·rw [if_neg c3] at H
     exact absurd H (by simp)
   ·rw [if_neg c2] at H
    have c2b0 : decide (x3_1 < (a0.size : Int)) = false := decide_eq_false c2;clear c2;by_cases c33 : 1 ≤ (a0.size : Int)
    ·rw [if_pos c33] at H
     have c33b0 : decide (1 ≤ (a0.size : Int)) = true := decide_eq_true c33;have c33b1 : decide (1 ≤ a0.size) = true := decide_eq_true (by omega);clear c33;obtain rfl := Option.some.inj H;go_wp2
     go_ret
     exact ⟨by first | rfl | (simp; done) | (simp [*]; done) | (simp [bne_nil_isEmpty, beq_nil_isEmpty]; done) | (simp [*, bne_nil_isEmpty, beq_nil_isEmpty]; done), by repeat (first | exact Drawn0.refl _ | apply Drawn0.step)⟩
    ·rw [if_neg c33] at H
     have c33b0 : decide (1 ≤ (a0.size : Int)) = false := decide_eq_false c33;have c33b1 : decide (1 ≤ a0.size) = false := decide_eq_false (by omega);clear c33;obtain rfl := Option.some.inj H;go_wp2
     go_ret
     exact ⟨by first | rfl | (simp; done) | (simp [*]; done) | (simp [bne_nil_isEmpty, beq_nil_isEmpty]; done) | (simp [*, bne_nil_isEmpty, beq_nil_isEmpty]; done), by repeat (first | exact Drawn0.refl _ | apply Drawn0.step)⟩

/-! ### tollref05_Value: function 28 -/
def tollref05_Value.l0 : Nat → ByteArray → Int → Option (Bool)
 | 0, _, _ => none
 | k + 1, x0, x3 => if x3 < (x0.size : Int) then (if x3 = 0 then (if 0 ≤ x3 then (if (bt x0 x3) < 32 then (some false) else (if (bt x0 x3) > 126 then (some false) else (if (bt x0 x3) = 32 then (some false) else (tollref05_Value.l0 k x0 (wrap64 (x3 + 1)))))) else (none)) else (if 0 ≤ x3 then (if (bt x0 x3) < 32 then (some false) else (if (bt x0 x3) > 126 then (some false) else (if (bt x0 x3) = 32 then (if x3 = (wrap64 ((x0.size : Int) - 1)) then (some false) else (tollref05_Value.l0 k x0 (wrap64 (x3 + 1)))) else (tollref05_Value.l0 k x0 (wrap64 (x3 + 1)))))) else (none))) else (some (decide ((x0.size : Int) ≤ 40)))
def tollref05_Value.f (k : Nat) (a0 : ByteArray) : Option (Bool) := tollref05_Value.l0 k a0 0
theorem tollref05_Value.mono_l : ∀ k, (∀ y0 y1, LeO (tollref05_Value.l0 k y0 y1) (tollref05_Value.l0 (k + 1) y0 y1))
 | 0 => fun _ _ r h => by simp [tollref05_Value.l0] at h
 | k + 1 => by
  have ih0 := tollref05_Value.mono_l k
  ·intro y0 y1
   unfold tollref05_Value.l0;repeat' first
   | (with_reducible exact ih0 _ _)
   | (with_reducible exact LeO.refl _)
   | (with_reducible exact LeO.none _)
   | (with_reducible refine LeO.ite ?_ ?_)
   | (with_reducible refine LeO.bind ?_ (fun _ => ?_))
   | exact ih0 _ _
   | exact LeO.none _
   | refine LeO.ite ?_ ?_
   | refine LeO.bind ?_ (fun _ => ?_)
theorem tollref05_Value.mono : ∀ a0 k, LeO (tollref05_Value.f k a0) (tollref05_Value.f (k + 1) a0) := by
 intro a0 k;have ih0 := tollref05_Value.mono_l k
 unfold tollref05_Value.f;repeat' first
   | (with_reducible exact ih0 _ _)
   | (with_reducible exact LeO.refl _)
   | (with_reducible exact LeO.none _)
   | (with_reducible refine LeO.ite ?_ ?_)
   | (with_reducible refine LeO.bind ?_ (fun _ => ?_))
   | exact ih0 _ _
   | exact LeO.none _
   | refine LeO.ite ?_ ?_
   | refine LeO.bind ?_ (fun _ => ?_)
set_option maxHeartbeats 8000000 in
set_option maxRecDepth 100000 in
theorem tollref05_Value.calls (k : Nat) (a0 : ByteArray) (r : Bool) (w : World) (h : tollref05_Value.f k a0 = some r) :
  Calls Tryz.prog 28 #[.string a0] w fun e w' => e = .returned (.bool r) ∧ Drawn0 w w' := by
 have H : (tollref05_Value.l0 k a0 0) = some r := h;clear h;have H' := Aside0.mk H;clear H;go_enter Tryz.func28, Tryz.ntmps28
 go_wp2
 go_loopg [3] k (fun kq v3 w' => ∃ (x3_1 : Int), v3 = .int .i64 x3_1 ∧ Aside0 (tollref05_Value.l0 kq a0 x3_1 = some r) ∧ Aside0 (kq ≤ k) ∧ Drawn0 w w')
 case atStart => exact ⟨(0), sd_, H', ⟨Nat.le_refl _⟩, by repeat (first | exact Drawn0.refl _ | apply Drawn0.step)⟩
 case round =>
  clear H';obtain ⟨x3_1, rfl, HA, HK1, ⟨m1, rfl⟩⟩ := hrel;cases gk with
  | zero => exact absurd HA.out (by simp [tollref05_Value.l0])
  | succ k1 =>
   have H := HA.out;clear HA;simp only [tollref05_Value.l0] at H;by_cases c2 : x3_1 < (a0.size : Int)
   ·rw [if_pos c2] at H
    have c2b0 : decide (x3_1 < (a0.size : Int)) = true := decide_eq_true c2;clear c2;by_cases c3 : x3_1 = 0
    ·rw [if_pos c3] at H
     have c3b0 : (x3_1 == 0) = true := beq_iff_eq.mpr c3;have c3b1 : (x3_1 != 0) = false := bne_eq_false_iff_eq.mpr c3;clear c3;by_cases c4 : 0 ≤ x3_1
     ·rw [if_pos c4] at H
      have c4b0 : decide (0 ≤ x3_1) = true := decide_eq_true c4;clear c4;by_cases c6 : (bt a0 x3_1) < 32
      ·rw [if_pos c6] at H
       have c6b0 : decide ((bt a0 x3_1) < 32) = true := decide_eq_true c6;clear c6;obtain rfl := Option.some.inj H;have p5 : 0 ≤ (x3_1 : Int) := of_decide_eq_true as_;have q5 : x3_1 < (a0.size : Int) := of_decide_eq_true as_;have hx5 := bt_at a0 x3_1;replace p5 := eq_true p5;replace q5 := eq_true q5;go_wp2
       go_ret
       exact ⟨by first | rfl | (simp; done) | (simp [*]; done) | (simp [bne_nil_isEmpty, beq_nil_isEmpty]; done) | (simp [*, bne_nil_isEmpty, beq_nil_isEmpty]; done), by repeat (first | exact Drawn0.refl _ | apply Drawn0.step)⟩
      ·rw [if_neg c6] at H
       have c6b0 : decide ((bt a0 x3_1) < 32) = false := decide_eq_false c6;clear c6;by_cases c8 : (bt a0 x3_1) > 126
       ·rw [if_pos c8] at H
        have c8b0 : decide (126 < (bt a0 x3_1)) = true := decide_eq_true c8;clear c8;obtain rfl := Option.some.inj H;have p5 : 0 ≤ (x3_1 : Int) := of_decide_eq_true as_;have q5 : x3_1 < (a0.size : Int) := of_decide_eq_true as_;have hx5 := bt_at a0 x3_1;replace p5 := eq_true p5;replace q5 := eq_true q5;have p7 : 0 ≤ (x3_1 : Int) := of_decide_eq_true as_;have q7 : x3_1 < (a0.size : Int) := of_decide_eq_true as_;have hx7 := bt_at a0 x3_1;replace p7 := eq_true p7;replace q7 := eq_true q7;go_wp2
        go_ret
        exact ⟨by first | rfl | (simp; done) | (simp [*]; done) | (simp [bne_nil_isEmpty, beq_nil_isEmpty]; done) | (simp [*, bne_nil_isEmpty, beq_nil_isEmpty]; done), by repeat (first | exact Drawn0.refl _ | apply Drawn0.step)⟩
       ·rw [if_neg c8] at H
        have c8b0 : decide (126 < (bt a0 x3_1)) = false := decide_eq_false c8;clear c8;by_cases c10 : (bt a0 x3_1) = 32
        ·rw [if_pos c10] at H
         have c10b0 : ((bt a0 x3_1) == 32) = true := beq_iff_eq.mpr c10;have c10b1 : ((bt a0 x3_1) != 32) = false := bne_eq_false_iff_eq.mpr c10;clear c10;obtain rfl := Option.some.inj H;have p5 : 0 ≤ (x3_1 : Int) := of_decide_eq_true as_;have q5 : x3_1 < (a0.size : Int) := of_decide_eq_true as_;have hx5 := bt_at a0 x3_1;replace p5 := eq_true p5;replace q5 := eq_true q5;have p7 : 0 ≤ (x3_1 : Int) := of_decide_eq_true as_;have q7 : x3_1 < (a0.size : Int) := of_decide_eq_true as_;have hx7 := bt_at a0 x3_1;replace p7 := eq_true p7;replace q7 := eq_true q7;have p9 : 0 ≤ (x3_1 : Int) := of_decide_eq_true as_;have q9 : x3_1 < (a0.size : Int) := of_decide_eq_true as_;have hx9 := bt_at a0 x3_1;replace p9 := eq_true p9;replace q9 := eq_true q9;go_wp2
         go_ret
         exact ⟨by first | rfl | (simp; done) | (simp [*]; done) | (simp [bne_nil_isEmpty, beq_nil_isEmpty]; done) | (simp [*, bne_nil_isEmpty, beq_nil_isEmpty]; done), by repeat (first | exact Drawn0.refl _ | apply Drawn0.step)⟩
        ·rw [if_neg c10] at H
         have c10b0 : ((bt a0 x3_1) == 32) = false := beq_eq_false_iff_ne.mpr c10;have c10b1 : ((bt a0 x3_1) != 32) = true := bne_iff_ne.mpr c10;have H' := Aside0.mk H;clear H;have p5 : 0 ≤ (x3_1 : Int) := of_decide_eq_true as_;have q5 : x3_1 < (a0.size : Int) := of_decide_eq_true as_;have hx5 := bt_at a0 x3_1;replace p5 := eq_true p5;replace q5 := eq_true q5;have p7 : 0 ≤ (x3_1 : Int) := of_decide_eq_true as_;have q7 : x3_1 < (a0.size : Int) := of_decide_eq_true as_;have hx7 := bt_at a0 x3_1;replace p7 := eq_true p7;replace q7 := eq_true q7;have p9 : 0 ≤ (x3_1 : Int) := of_decide_eq_true as_;have q9 : x3_1 < (a0.size : Int) := of_decide_eq_true as_;have hx9 := bt_at a0 x3_1;replace p9 := eq_true p9;replace q9 := eq_true q9;go_wp2
         go_roundg k1
         case measure => have := HK1.out; omega
         case rel => exact ⟨(wrap64 (x3_1 + 1)), sd_, H', ⟨by have := HK1.out; omega⟩, by repeat (first | exact Drawn0.refl _ | apply Drawn0.step)⟩
     ·rw [if_neg c4] at H
      exact absurd H (by simp)
    ·rw [if_neg c3] at H
     have c3b0 : (x3_1 == 0) = false := beq_eq_false_iff_ne.mpr c3;have c3b1 : (x3_1 != 0) = true := bne_iff_ne.mpr c3;by_cases c11 : 0 ≤ x3_1
     ·rw [if_pos c11] at H
      have c11b0 : decide (0 ≤ x3_1) = true := decide_eq_true c11;clear c11;by_cases c13 : (bt a0 x3_1) < 32
      ·rw [if_pos c13] at H
       have c13b0 : decide ((bt a0 x3_1) < 32) = true := decide_eq_true c13;clear c13;obtain rfl := Option.some.inj H;have p12 : 0 ≤ (x3_1 : Int) := of_decide_eq_true as_;have q12 : x3_1 < (a0.size : Int) := of_decide_eq_true as_;have hx12 := bt_at a0 x3_1;replace p12 := eq_true p12;replace q12 := eq_true q12;go_wp2
       go_ret
       exact ⟨by first | rfl | (simp; done) | (simp [*]; done) | (simp [bne_nil_isEmpty, beq_nil_isEmpty]; done) | (simp [*, bne_nil_isEmpty, beq_nil_isEmpty]; done), by repeat (first | exact Drawn0.refl _ | apply Drawn0.step)⟩
      ·rw [if_neg c13] at H
       have c13b0 : decide ((bt a0 x3_1) < 32) = false := decide_eq_false c13;clear c13;by_cases c15 : (bt a0 x3_1) > 126
       ·rw [if_pos c15] at H
        have c15b0 : decide (126 < (bt a0 x3_1)) = true := decide_eq_true c15;clear c15;obtain rfl := Option.some.inj H;have p12 : 0 ≤ (x3_1 : Int) := of_decide_eq_true as_;have q12 : x3_1 < (a0.size : Int) := of_decide_eq_true as_;have hx12 := bt_at a0 x3_1;replace p12 := eq_true p12;replace q12 := eq_true q12;have p14 : 0 ≤ (x3_1 : Int) := of_decide_eq_true as_;have q14 : x3_1 < (a0.size : Int) := of_decide_eq_true as_;have hx14 := bt_at a0 x3_1;replace p14 := eq_true p14;replace q14 := eq_true q14;go_wp2
        go_ret
        exact ⟨by first | rfl | (simp; done) | (simp [*]; done) | (simp [bne_nil_isEmpty, beq_nil_isEmpty]; done) | (simp [*, bne_nil_isEmpty, beq_nil_isEmpty]; done), by repeat (first | exact Drawn0.refl _ | apply Drawn0.step)⟩
       ·rw [if_neg c15] at H
        have c15b0 : decide (126 < (bt a0 x3_1)) = false := decide_eq_false c15;clear c15;by_cases c17 : (bt a0 x3_1) = 32
        ·rw [if_pos c17] at H
         have c17b0 : ((bt a0 x3_1) == 32) = true := beq_iff_eq.mpr c17;have c17b1 : ((bt a0 x3_1) != 32) = false := bne_eq_false_iff_eq.mpr c17;clear c17;by_cases c18 : x3_1 = (wrap64 ((a0.size : Int) - 1))
         ·rw [if_pos c18] at H
          have c18b0 : (x3_1 == (wrap64 ((a0.size : Int) - 1))) = true := beq_iff_eq.mpr c18;have c18b1 : (x3_1 != (wrap64 ((a0.size : Int) - 1))) = false := bne_eq_false_iff_eq.mpr c18;clear c18;obtain rfl := Option.some.inj H;have p12 : 0 ≤ (x3_1 : Int) := of_decide_eq_true as_;have q12 : x3_1 < (a0.size : Int) := of_decide_eq_true as_;have hx12 := bt_at a0 x3_1;replace p12 := eq_true p12;replace q12 := eq_true q12;have p14 : 0 ≤ (x3_1 : Int) := of_decide_eq_true as_;have q14 : x3_1 < (a0.size : Int) := of_decide_eq_true as_;have hx14 := bt_at a0 x3_1;replace p14 := eq_true p14;replace q14 := eq_true q14;have p16 : 0 ≤ (x3_1 : Int) := of_decide_eq_true as_;have q16 : x3_1 < (a0.size : Int) := of_decide_eq_true as_;have hx16 := bt_at a0 x3_1;replace p16 := eq_true p16;replace q16 := eq_true q16;go_wp2
          go_ret
          exact ⟨by first | rfl | (simp; done) | (simp [*]; done) | (simp [bne_nil_isEmpty, beq_nil_isEmpty]; done) | (simp [*, bne_nil_isEmpty, beq_nil_isEmpty]; done), by repeat (first | exact Drawn0.refl _ | apply Drawn0.step)⟩
         ·rw [if_neg c18] at H
          have c18b0 : (x3_1 == (wrap64 ((a0.size : Int) - 1))) = false := beq_eq_false_iff_ne.mpr c18;have c18b1 : (x3_1 != (wrap64 ((a0.size : Int) - 1))) = true := bne_iff_ne.mpr c18;have H' := Aside0.mk H;clear H;have p12 : 0 ≤ (x3_1 : Int) := of_decide_eq_true as_;have q12 : x3_1 < (a0.size : Int) := of_decide_eq_true as_;have hx12 := bt_at a0 x3_1;replace p12 := eq_true p12;replace q12 := eq_true q12;have p14 : 0 ≤ (x3_1 : Int) := of_decide_eq_true as_;have q14 : x3_1 < (a0.size : Int) := of_decide_eq_true as_;have hx14 := bt_at a0 x3_1;replace p14 := eq_true p14;replace q14 := eq_true q14;have p16 : 0 ≤ (x3_1 : Int) := of_decide_eq_true as_;have q16 : x3_1 < (a0.size : Int) := of_decide_eq_true as_;have hx16 := bt_at a0 x3_1;replace p16 := eq_true p16;replace q16 := eq_true q16;go_wp2
          go_roundg k1
          case measure => have := HK1.out; omega
          case rel => exact ⟨(wrap64 (x3_1 + 1)), sd_, H', ⟨by have := HK1.out; omega⟩, by repeat (first | exact Drawn0.refl _ | apply Drawn0.step)⟩
        ·rw [if_neg c17] at H
         have c17b0 : ((bt a0 x3_1) == 32) = false := beq_eq_false_iff_ne.mpr c17;have c17b1 : ((bt a0 x3_1) != 32) = true := bne_iff_ne.mpr c17;have H' := Aside0.mk H;clear H;have p12 : 0 ≤ (x3_1 : Int) := of_decide_eq_true as_;have q12 : x3_1 < (a0.size : Int) := of_decide_eq_true as_;have hx12 := bt_at a0 x3_1;replace p12 := eq_true p12;replace q12 := eq_true q12;have p14 : 0 ≤ (x3_1 : Int) := of_decide_eq_true as_;have q14 : x3_1 < (a0.size : Int) := of_decide_eq_true as_;have hx14 := bt_at a0 x3_1;replace p14 := eq_true p14;replace q14 := eq_true q14;have p16 : 0 ≤ (x3_1 : Int) := of_decide_eq_true as_;have q16 : x3_1 < (a0.size : Int) := of_decide_eq_true as_;have hx16 := bt_at a0 x3_1;replace p16 := eq_true p16;replace q16 := eq_true q16;go_wp2
         go_roundg k1
         case measure => have := HK1.out; omega
         case rel => exact ⟨(wrap64 (x3_1 + 1)), sd_, H', ⟨by have := HK1.out; omega⟩, by repeat (first | exact Drawn0.refl _ | apply Drawn0.step)⟩
     ·rw [if_neg c11] at H
      exact absurd H (by simp)
   ·rw [if_neg c2] at H
    have c2b0 : decide (x3_1 < (a0.size : Int)) = false := decide_eq_false c2;clear c2;obtain rfl := Option.some.inj H;go_wp2
    go_ret
    exact ⟨by first | rfl | (simp; done) | (simp [*]; done) | (simp [bne_nil_isEmpty, beq_nil_isEmpty]; done) | (simp [*, bne_nil_isEmpty, beq_nil_isEmpty]; done), by repeat (first | exact Drawn0.refl _ | apply Drawn0.step)⟩

end Go.Proofs.YtpmllmfamjpinaaGreatDoor.P
