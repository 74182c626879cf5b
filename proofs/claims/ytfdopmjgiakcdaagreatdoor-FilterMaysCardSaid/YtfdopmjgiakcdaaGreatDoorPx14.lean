-- written by wip/tool/hprint.py of this repo: the kit's print, with contracts by hand joined; Lean checks it.
import Derived.Test.YtfdopmjgiakcdaaGreatDoorPx0
namespace Go.Proofs.YtfdopmjgiakcdaaGreatDoor.P
open Go.RowKit Go.Proofs.YtfdopmjgiakcdaaGreatDoorW.PrintWords Go.Proofs.YtfdopmjgiakcdaaGreatDoorW.PrintLast Go.Proofs.YtfdopmjgiakcdaaGreatDoorW.PrintMore
attribute [local go_sem] max2_int min2_int max_two min_two max_three min_three max_four min_four   -- for this text's walks alone
set_option linter.unusedVariables false
set_option linter.unusedSimpArgs false

/-! ### tollref05_Token: function 31 -/
mutual
def tollref05_Token.l0 : Nat → ByteArray → Int → Option (Bool)
 | 0, _, _ => none
 | k + 1, x0, x3 => if x3 < (x0.size : Int) then (if 0 ≤ x3 then (if 48 ≤ (bt x0 x3) then (if (bt x0 x3) ≤ 57 then (tollref05_Token.j1 k x0 x3 (bt x0 x3) true) else (if 65 ≤ (bt x0 x3) then (if (bt x0 x3) ≤ 90 then (tollref05_Token.j1 k x0 x3 (bt x0 x3) true) else (if 97 ≤ (bt x0 x3) then (tollref05_Token.j1 k x0 x3 (bt x0 x3) (decide ((bt x0 x3) ≤ 122))) else (tollref05_Token.j1 k x0 x3 (bt x0 x3) false))) else (if 97 ≤ (bt x0 x3) then (tollref05_Token.j1 k x0 x3 (bt x0 x3) (decide ((bt x0 x3) ≤ 122))) else (tollref05_Token.j1 k x0 x3 (bt x0 x3) false)))) else (if 65 ≤ (bt x0 x3) then (if (bt x0 x3) ≤ 90 then (tollref05_Token.j1 k x0 x3 (bt x0 x3) true) else (if 97 ≤ (bt x0 x3) then (tollref05_Token.j1 k x0 x3 (bt x0 x3) (decide ((bt x0 x3) ≤ 122))) else (tollref05_Token.j1 k x0 x3 (bt x0 x3) false))) else (if 97 ≤ (bt x0 x3) then (tollref05_Token.j1 k x0 x3 (bt x0 x3) (decide ((bt x0 x3) ≤ 122))) else (tollref05_Token.j1 k x0 x3 (bt x0 x3) false)))) else (none)) else (if 1 ≤ (x0.size : Int) then (some (decide ((x0.size : Int) ≤ 40))) else (some false))
def tollref05_Token.j1 : Nat → ByteArray → Int → Int → Bool → Option (Bool)
 | 0, _, _, _, _ => none
 | k + 1, x0, x3, x4, x5 => if x4 = 33 then (tollref05_Token.j2 k x0 x3 x5 (x4 == 33)) else (if x4 = 35 then (tollref05_Token.j2 k x0 x3 x5 (x4 == 35)) else (if x4 = 36 then (tollref05_Token.j2 k x0 x3 x5 (x4 == 36)) else (if x4 = 37 then (tollref05_Token.j2 k x0 x3 x5 (x4 == 37)) else (if x4 = 38 then (tollref05_Token.j2 k x0 x3 x5 (x4 == 38)) else (if x4 = 39 then (tollref05_Token.j2 k x0 x3 x5 (x4 == 39)) else (if x4 = 42 then (tollref05_Token.j2 k x0 x3 x5 (x4 == 42)) else (if x4 = 43 then (tollref05_Token.j2 k x0 x3 x5 (x4 == 43)) else (if x4 = 45 then (tollref05_Token.j2 k x0 x3 x5 (x4 == 45)) else (if x4 = 46 then (tollref05_Token.j2 k x0 x3 x5 (x4 == 46)) else (if x4 = 94 then (tollref05_Token.j2 k x0 x3 x5 (x4 == 94)) else (if x4 = 95 then (tollref05_Token.j2 k x0 x3 x5 (x4 == 95)) else (if x4 = 96 then (tollref05_Token.j2 k x0 x3 x5 (x4 == 96)) else (if x4 = 124 then (tollref05_Token.j2 k x0 x3 x5 (x4 == 124)) else (tollref05_Token.j2 k x0 x3 x5 (x4 == 126)))))))))))))))
def tollref05_Token.j2 : Nat → ByteArray → Int → Bool → Bool → Option (Bool)
 | 0, _, _, _, _ => none
 | k + 1, x0, x3, x5, x38 => if x38 = true then (tollref05_Token.l0 k x0 (wrap64 (x3 + 1))) else (if x5 = true then (tollref05_Token.l0 k x0 (wrap64 (x3 + 1))) else (some false))
end
def tollref05_Token.f (k : Nat) (a0 : ByteArray) : Option (Bool) := tollref05_Token.l0 k a0 0
theorem tollref05_Token.mono_l : ∀ k, (∀ y0 y1, LeO (tollref05_Token.l0 k y0 y1) (tollref05_Token.l0 (k + 1) y0 y1)) ∧ (∀ y0 y1 y2 y3, LeO (tollref05_Token.j1 k y0 y1 y2 y3) (tollref05_Token.j1 (k + 1) y0 y1 y2 y3)) ∧ (∀ y0 y1 y2 y3, LeO (tollref05_Token.j2 k y0 y1 y2 y3) (tollref05_Token.j2 (k + 1) y0 y1 y2 y3))
 | 0 => ⟨fun _ _ r h => by simp [tollref05_Token.l0] at h, fun _ _ _ _ r h => by simp [tollref05_Token.j1] at h, fun _ _ _ _ r h => by simp [tollref05_Token.j2] at h⟩
 | k + 1 => by
  obtain ⟨ih0, ih1, ih2⟩ := tollref05_Token.mono_l k
  refine ⟨?_, ?_, ?_⟩
  ·intro y0 y1
   unfold tollref05_Token.l0
   repeat' first
   | (with_reducible exact ih0 _ _)
   | (with_reducible exact ih1 _ _ _ _)
   | (with_reducible exact ih2 _ _ _ _)
   | (with_reducible exact LeO.refl _)
   | (with_reducible exact LeO.none _)
   | (with_reducible refine LeO.ite ?_ ?_)
   | (with_reducible refine LeO.bind ?_ (fun _ => ?_))
   | exact ih0 _ _
   | exact ih1 _ _ _ _
   | exact ih2 _ _ _ _
   | exact LeO.none _
   | refine LeO.ite ?_ ?_
   | refine LeO.bind ?_ (fun _ => ?_)
  ·intro y0 y1 y2 y3
   unfold tollref05_Token.j1
   repeat' first
   | (with_reducible exact ih0 _ _)
   | (with_reducible exact ih1 _ _ _ _)
   | (with_reducible exact ih2 _ _ _ _)
   | (with_reducible exact LeO.refl _)
   | (with_reducible exact LeO.none _)
   | (with_reducible refine LeO.ite ?_ ?_)
   | (with_reducible refine LeO.bind ?_ (fun _ => ?_))
   | exact ih0 _ _
   | exact ih1 _ _ _ _
   | exact ih2 _ _ _ _
   | exact LeO.none _
   | refine LeO.ite ?_ ?_
   | refine LeO.bind ?_ (fun _ => ?_)
  ·intro y0 y1 y2 y3
   unfold tollref05_Token.j2
   repeat' first
   | (with_reducible exact ih0 _ _)
   | (with_reducible exact ih1 _ _ _ _)
   | (with_reducible exact ih2 _ _ _ _)
   | (with_reducible exact LeO.refl _)
   | (with_reducible exact LeO.none _)
   | (with_reducible refine LeO.ite ?_ ?_)
   | (with_reducible refine LeO.bind ?_ (fun _ => ?_))
   | exact ih0 _ _
   | exact ih1 _ _ _ _
   | exact ih2 _ _ _ _
   | exact LeO.none _
   | refine LeO.ite ?_ ?_
   | refine LeO.bind ?_ (fun _ => ?_)
theorem tollref05_Token.mono : ∀ a0 k, LeO (tollref05_Token.f k a0) (tollref05_Token.f (k + 1) a0) := by
 intro a0 k
 obtain ⟨ih0, ih1, ih2⟩ := tollref05_Token.mono_l k
 unfold tollref05_Token.f
 repeat' first
   | (with_reducible exact ih0 _ _)
   | (with_reducible exact ih1 _ _ _ _)
   | (with_reducible exact ih2 _ _ _ _)
   | (with_reducible exact LeO.refl _)
   | (with_reducible exact LeO.none _)
   | (with_reducible refine LeO.ite ?_ ?_)
   | (with_reducible refine LeO.bind ?_ (fun _ => ?_))
   | exact ih0 _ _
   | exact ih1 _ _ _ _
   | exact ih2 _ _ _ _
   | exact LeO.none _
   | refine LeO.ite ?_ ?_
   | refine LeO.bind ?_ (fun _ => ?_)
set_option maxHeartbeats 8000000 in
set_option maxRecDepth 100000 in
theorem tollref05_Token.calls (k : Nat) (a0 : ByteArray) (r : Bool) (w : World) (h : tollref05_Token.f k a0 = some r) :
  Calls Tryz.prog 31 #[.string a0] w fun e w' => e = .returned (.bool r) ∧ Drawn0 w w' := by
 have H : (tollref05_Token.l0 k a0 0) = some r := h
 clear h
 have H' := Aside0.mk H
 clear H
 go_enter Tryz.func31, Tryz.ntmps31
 go_wp2
 go_loopg [3] k (fun kq v3 w' => ∃ (x3_1 : Int), v3 = .int .i64 x3_1 ∧ Aside0 (tollref05_Token.l0 kq a0 x3_1 = some r) ∧ Aside0 (kq ≤ k) ∧ Drawn0 w w')
 case atStart => exact ⟨(0), sd_, H', ⟨Nat.le_refl _⟩, by repeat (first | exact Drawn0.refl _ | apply Drawn0.step)⟩
 case round =>
  clear H'
  obtain ⟨x3_1, rfl, HA, HK1, ⟨m1, rfl⟩⟩ := hrel
  cases gk with
  | zero => exact absurd HA.out (by simp [tollref05_Token.l0])
  | succ k1 =>
   have H := HA.out
   clear HA
   simp only [tollref05_Token.l0] at H
   by_cases c2 : x3_1 < (a0.size : Int)
   ·rw [if_pos c2] at H
    have c2b0 : decide (x3_1 < (a0.size : Int)) = true := decide_eq_true c2
    clear c2
    by_cases c3 : 0 ≤ x3_1
    ·rw [if_pos c3] at H
     have c3b0 : decide (0 ≤ x3_1) = true := decide_eq_true c3
     clear c3
     have HC5 := Aside0.mk H
     clear H
     have p4 : 0 ≤ (x3_1 : Int) := of_decide_eq_true as_
     have q4 : x3_1 < (a0.size : Int) := of_decide_eq_true as_
     have hx4 := bt_at a0 x3_1
     replace p4 := eq_true p4
     replace q4 := eq_true q4
     go_upto_region 5 with (fail)
     go_cut [5] (fun v5 wc => ∃ (kq : Nat) (x5_4 : Bool), v5 = .bool x5_4 ∧ Aside0 (tollref05_Token.j1 kq a0 x3_1 (bt a0 x3_1) x5_4 = some r) ∧ Aside0 (kq ≤ k1) ∧ Drawn0 w wc)
     case first =>
      have H := HC5.out
      clear HC5
      by_cases c6 : 48 ≤ (bt a0 x3_1)
      ·rw [if_pos c6] at H
       have c6b0 : decide (48 ≤ (bt a0 x3_1)) = true := decide_eq_true c6
       clear c6
       (first | rw [c6b0] | rw [c6b1] | rw [c6b2] | (simp only [i64_w, i32_w]; rw [c6b0]) | skip)
       by_cases c7 : (bt a0 x3_1) ≤ 57
       ·rw [if_pos c7] at H
        have c7b0 : decide ((bt a0 x3_1) ≤ 57) = true := decide_eq_true c7
        clear c7
        have H' := Aside0.mk H
        clear H
        go_wp2
        go_meet
        case rel => exact ⟨_, (true), sd_, H', ⟨by have := HK1.out; first | omega | exact Nat.le_refl _⟩, by repeat (first | exact Drawn0.refl _ | apply Drawn0.step)⟩
       ·rw [if_neg c7] at H
        have c7b0 : decide ((bt a0 x3_1) ≤ 57) = false := decide_eq_false c7
        clear c7
        by_cases c8 : 65 ≤ (bt a0 x3_1)
        ·rw [if_pos c8] at H
         have c8b0 : decide (65 ≤ (bt a0 x3_1)) = true := decide_eq_true c8
         clear c8
         by_cases c9 : (bt a0 x3_1) ≤ 90
         ·rw [if_pos c9] at H
          have c9b0 : decide ((bt a0 x3_1) ≤ 90) = true := decide_eq_true c9
          clear c9
          have H' := Aside0.mk H
          clear H
          go_wp2
          go_meet
          case rel => exact ⟨_, (true), sd_, H', ⟨by have := HK1.out; first | omega | exact Nat.le_refl _⟩, by repeat (first | exact Drawn0.refl _ | apply Drawn0.step)⟩
         ·rw [if_neg c9] at H
          have c9b0 : decide ((bt a0 x3_1) ≤ 90) = false := decide_eq_false c9
          clear c9
          by_cases c10 : 97 ≤ (bt a0 x3_1)
          ·rw [if_pos c10] at H
           have c10b0 : decide (97 ≤ (bt a0 x3_1)) = true := decide_eq_true c10
           clear c10
           have H' := Aside0.mk H
           clear H
           go_wp2
           go_meet
           case rel => exact ⟨_, (decide ((bt a0 x3_1) ≤ 122)), sd_, H', ⟨by have := HK1.out; first | omega | exact Nat.le_refl _⟩, by repeat (first | exact Drawn0.refl _ | apply Drawn0.step)⟩
          ·rw [if_neg c10] at H
           have c10b0 : decide (97 ≤ (bt a0 x3_1)) = false := decide_eq_false c10
           clear c10
           have H' := Aside0.mk H
           clear H
           go_wp2
           go_meet
           case rel => exact ⟨_, (false), sd_, H', ⟨by have := HK1.out; first | omega | exact Nat.le_refl _⟩, by repeat (first | exact Drawn0.refl _ | apply Drawn0.step)⟩
        ·rw [if_neg c8] at H
         have c8b0 : decide (65 ≤ (bt a0 x3_1)) = false := decide_eq_false c8
         clear c8
         by_cases c11 : 97 ≤ (bt a0 x3_1)
         ·rw [if_pos c11] at H
          have c11b0 : decide (97 ≤ (bt a0 x3_1)) = true := decide_eq_true c11
          clear c11
          have H' := Aside0.mk H
          clear H
          go_wp2
          go_meet
          case rel => exact ⟨_, (decide ((bt a0 x3_1) ≤ 122)), sd_, H', ⟨by have := HK1.out; first | omega | exact Nat.le_refl _⟩, by repeat (first | exact Drawn0.refl _ | apply Drawn0.step)⟩
         ·rw [if_neg c11] at H
          have c11b0 : decide (97 ≤ (bt a0 x3_1)) = false := decide_eq_false c11
          clear c11
          have H' := Aside0.mk H
          clear H
          go_wp2
          go_meet
          case rel => exact ⟨_, (false), sd_, H', ⟨by have := HK1.out; first | omega | exact Nat.le_refl _⟩, by repeat (first | exact Drawn0.refl _ | apply Drawn0.step)⟩
      ·rw [if_neg c6] at H
       have c6b0 : decide (48 ≤ (bt a0 x3_1)) = false := decide_eq_false c6
       clear c6
       (first | rw [c6b0] | rw [c6b1] | rw [c6b2] | (simp only [i64_w, i32_w]; rw [c6b0]) | skip)
       by_cases c12 : 65 ≤ (bt a0 x3_1)
       ·rw [if_pos c12] at H
        have c12b0 : decide (65 ≤ (bt a0 x3_1)) = true := decide_eq_true c12
        clear c12
        by_cases c13 : (bt a0 x3_1) ≤ 90
        ·rw [if_pos c13] at H
         have c13b0 : decide ((bt a0 x3_1) ≤ 90) = true := decide_eq_true c13
         clear c13
         have H' := Aside0.mk H
         clear H
         go_wp2
         go_meet
         case rel => exact ⟨_, (true), sd_, H', ⟨by have := HK1.out; first | omega | exact Nat.le_refl _⟩, by repeat (first | exact Drawn0.refl _ | apply Drawn0.step)⟩
        ·rw [if_neg c13] at H
         have c13b0 : decide ((bt a0 x3_1) ≤ 90) = false := decide_eq_false c13
         clear c13
         by_cases c14 : 97 ≤ (bt a0 x3_1)
         ·rw [if_pos c14] at H
          have c14b0 : decide (97 ≤ (bt a0 x3_1)) = true := decide_eq_true c14
          clear c14
          have H' := Aside0.mk H
          clear H
          go_wp2
          go_meet
          case rel => exact ⟨_, (decide ((bt a0 x3_1) ≤ 122)), sd_, H', ⟨by have := HK1.out; first | omega | exact Nat.le_refl _⟩, by repeat (first | exact Drawn0.refl _ | apply Drawn0.step)⟩
         ·rw [if_neg c14] at H
          have c14b0 : decide (97 ≤ (bt a0 x3_1)) = false := decide_eq_false c14
          clear c14
          have H' := Aside0.mk H
          clear H
          go_wp2
          go_meet
          case rel => exact ⟨_, (false), sd_, H', ⟨by have := HK1.out; first | omega | exact Nat.le_refl _⟩, by repeat (first | exact Drawn0.refl _ | apply Drawn0.step)⟩
       ·rw [if_neg c12] at H
        have c12b0 : decide (65 ≤ (bt a0 x3_1)) = false := decide_eq_false c12
        clear c12
        by_cases c15 : 97 ≤ (bt a0 x3_1)
        ·rw [if_pos c15] at H
         have c15b0 : decide (97 ≤ (bt a0 x3_1)) = true := decide_eq_true c15
         clear c15
         have H' := Aside0.mk H
         clear H
         go_wp2
         go_meet
         case rel => exact ⟨_, (decide ((bt a0 x3_1) ≤ 122)), sd_, H', ⟨by have := HK1.out; first | omega | exact Nat.le_refl _⟩, by repeat (first | exact Drawn0.refl _ | apply Drawn0.step)⟩
        ·rw [if_neg c15] at H
         have c15b0 : decide (97 ≤ (bt a0 x3_1)) = false := decide_eq_false c15
         clear c15
         have H' := Aside0.mk H
         clear H
         go_wp2
         go_meet
         case rel => exact ⟨_, (false), sd_, H', ⟨by have := HK1.out; first | omega | exact Nat.le_refl _⟩, by repeat (first | exact Drawn0.refl _ | apply Drawn0.step)⟩
     case rest =>
      clear HC5
      try clear c1
      try clear c2
      try clear c2b0
      try clear p2
      try clear c3
      try clear c3b0
      try clear p4
      try clear q4
      try clear hx4
      try clear c6
      try clear c6b0
      try clear c6b1
      try clear c6b2
      try clear c7
      try clear c7b0
      try clear c8
      try clear c8b0
      try clear c9
      try clear c9b0
      try clear c10
      try clear c10b0
      try clear c11
      try clear c11b0
      try clear c12
      try clear c12b0
      try clear c13
      try clear c13b0
      try clear c14
      try clear c14b0
      try clear c15
      try clear c15b0
      try clear p4
      try clear q4
      obtain ⟨kq, x5_4, rfl, HA, HJ4, ⟨mc4, rfl⟩⟩ := hcut
      cases kq with
      | zero => exact absurd HA.out (by simp [tollref05_Token.j1])
      | succ kj4 =>
       have H := HA.out
       clear HA
       simp only [tollref05_Token.j1] at H
       have HC16 := Aside0.mk H
       clear H
       go_upto_if 38 with (fail)
       go_cut [38] (fun v38 wc => ∃ (kq : Nat) (x38_15 : Bool), v38 = .bool x38_15 ∧ Aside0 (tollref05_Token.j2 kq a0 x3_1 x5_4 x38_15 = some r) ∧ Aside0 (kq ≤ kj4) ∧ Drawn0 w wc)
       case first =>
        have H := HC16.out
        clear HC16
        by_cases c17 : (bt a0 x3_1) = 33
        ·rw [if_pos c17] at H
         have c17b0 : ((bt a0 x3_1) == 33) = true := beq_iff_eq.mpr c17
         have c17b1 : ((bt a0 x3_1) != 33) = false := bne_eq_false_iff_eq.mpr c17
         clear c17
         (first | rw [c17b0] | rw [c17b1] | rw [c17b2] | (simp only [i64_w, i32_w]; rw [c17b0]) | skip)
         have H' := Aside0.mk H
         clear H
         go_wp2
         go_meet
         case rel => exact ⟨_, (((bt a0 x3_1) == 33)), sd_, H', ⟨by have := HK1.out; have := HJ4.out; first | omega | exact Nat.le_refl _⟩, by repeat (first | exact Drawn0.refl _ | apply Drawn0.step)⟩
        ·rw [if_neg c17] at H
         have c17b0 : ((bt a0 x3_1) == 33) = false := beq_eq_false_iff_ne.mpr c17
         have c17b1 : ((bt a0 x3_1) != 33) = true := bne_iff_ne.mpr c17
         (first | rw [c17b0] | rw [c17b1] | rw [c17b2] | (simp only [i64_w, i32_w]; rw [c17b0]) | skip)
         by_cases c18 : (bt a0 x3_1) = 35
         ·rw [if_pos c18] at H
          have c18b0 : ((bt a0 x3_1) == 35) = true := beq_iff_eq.mpr c18
          have c18b1 : ((bt a0 x3_1) != 35) = false := bne_eq_false_iff_eq.mpr c18
          clear c18
          have H' := Aside0.mk H
          clear H
          go_wp2
          go_meet
          case rel => exact ⟨_, (((bt a0 x3_1) == 35)), sd_, H', ⟨by have := HK1.out; have := HJ4.out; first | omega | exact Nat.le_refl _⟩, by repeat (first | exact Drawn0.refl _ | apply Drawn0.step)⟩
         ·rw [if_neg c18] at H
          have c18b0 : ((bt a0 x3_1) == 35) = false := beq_eq_false_iff_ne.mpr c18
          have c18b1 : ((bt a0 x3_1) != 35) = true := bne_iff_ne.mpr c18
          by_cases c19 : (bt a0 x3_1) = 36
          ·rw [if_pos c19] at H
           have c19b0 : ((bt a0 x3_1) == 36) = true := beq_iff_eq.mpr c19
           have c19b1 : ((bt a0 x3_1) != 36) = false := bne_eq_false_iff_eq.mpr c19
           clear c19
           have H' := Aside0.mk H
           clear H
           go_wp2
           go_meet
           case rel => exact ⟨_, (((bt a0 x3_1) == 36)), sd_, H', ⟨by have := HK1.out; have := HJ4.out; first | omega | exact Nat.le_refl _⟩, by repeat (first | exact Drawn0.refl _ | apply Drawn0.step)⟩
          ·rw [if_neg c19] at H
           have c19b0 : ((bt a0 x3_1) == 36) = false := beq_eq_false_iff_ne.mpr c19
           have c19b1 : ((bt a0 x3_1) != 36) = true := bne_iff_ne.mpr c19
           by_cases c20 : (bt a0 x3_1) = 37
           ·rw [if_pos c20] at H
            have c20b0 : ((bt a0 x3_1) == 37) = true := beq_iff_eq.mpr c20
            have c20b1 : ((bt a0 x3_1) != 37) = false := bne_eq_false_iff_eq.mpr c20
            clear c20
            have H' := Aside0.mk H
            clear H
            go_wp2
            go_meet
            case rel => exact ⟨_, (((bt a0 x3_1) == 37)), sd_, H', ⟨by have := HK1.out; have := HJ4.out; first | omega | exact Nat.le_refl _⟩, by repeat (first | exact Drawn0.refl _ | apply Drawn0.step)⟩
           ·rw [if_neg c20] at H
            have c20b0 : ((bt a0 x3_1) == 37) = false := beq_eq_false_iff_ne.mpr c20
            have c20b1 : ((bt a0 x3_1) != 37) = true := bne_iff_ne.mpr c20
            by_cases c21 : (bt a0 x3_1) = 38
            ·rw [if_pos c21] at H
             have c21b0 : ((bt a0 x3_1) == 38) = true := beq_iff_eq.mpr c21
             have c21b1 : ((bt a0 x3_1) != 38) = false := bne_eq_false_iff_eq.mpr c21
             clear c21
             have H' := Aside0.mk H
             clear H
             go_wp2
             go_meet
             case rel => exact ⟨_, (((bt a0 x3_1) == 38)), sd_, H', ⟨by have := HK1.out; have := HJ4.out; first | omega | exact Nat.le_refl _⟩, by repeat (first | exact Drawn0.refl _ | apply Drawn0.step)⟩
            ·rw [if_neg c21] at H
             have c21b0 : ((bt a0 x3_1) == 38) = false := beq_eq_false_iff_ne.mpr c21
             have c21b1 : ((bt a0 x3_1) != 38) = true := bne_iff_ne.mpr c21
             by_cases c22 : (bt a0 x3_1) = 39
             ·rw [if_pos c22] at H
              have c22b0 : ((bt a0 x3_1) == 39) = true := beq_iff_eq.mpr c22
              have c22b1 : ((bt a0 x3_1) != 39) = false := bne_eq_false_iff_eq.mpr c22
              clear c22
              have H' := Aside0.mk H
              clear H
              go_wp2
              go_meet
              case rel => exact ⟨_, (((bt a0 x3_1) == 39)), sd_, H', ⟨by have := HK1.out; have := HJ4.out; first | omega | exact Nat.le_refl _⟩, by repeat (first | exact Drawn0.refl _ | apply Drawn0.step)⟩
             ·rw [if_neg c22] at H
              have c22b0 : ((bt a0 x3_1) == 39) = false := beq_eq_false_iff_ne.mpr c22
              have c22b1 : ((bt a0 x3_1) != 39) = true := bne_iff_ne.mpr c22
              by_cases c23 : (bt a0 x3_1) = 42
              ·rw [if_pos c23] at H
               have c23b0 : ((bt a0 x3_1) == 42) = true := beq_iff_eq.mpr c23
               have c23b1 : ((bt a0 x3_1) != 42) = false := bne_eq_false_iff_eq.mpr c23
               clear c23
               have H' := Aside0.mk H
               clear H
               go_wp2
               go_meet
               case rel => exact ⟨_, (((bt a0 x3_1) == 42)), sd_, H', ⟨by have := HK1.out; have := HJ4.out; first | omega | exact Nat.le_refl _⟩, by repeat (first | exact Drawn0.refl _ | apply Drawn0.step)⟩
              ·rw [if_neg c23] at H
               have c23b0 : ((bt a0 x3_1) == 42) = false := beq_eq_false_iff_ne.mpr c23
               have c23b1 : ((bt a0 x3_1) != 42) = true := bne_iff_ne.mpr c23
               by_cases c24 : (bt a0 x3_1) = 43
               ·rw [if_pos c24] at H
                have c24b0 : ((bt a0 x3_1) == 43) = true := beq_iff_eq.mpr c24
                have c24b1 : ((bt a0 x3_1) != 43) = false := bne_eq_false_iff_eq.mpr c24
                clear c24
                have H' := Aside0.mk H
                clear H
                go_wp2
                go_meet
                case rel => exact ⟨_, (((bt a0 x3_1) == 43)), sd_, H', ⟨by have := HK1.out; have := HJ4.out; first | omega | exact Nat.le_refl _⟩, by repeat (first | exact Drawn0.refl _ | apply Drawn0.step)⟩
               ·rw [if_neg c24] at H
                have c24b0 : ((bt a0 x3_1) == 43) = false := beq_eq_false_iff_ne.mpr c24
                have c24b1 : ((bt a0 x3_1) != 43) = true := bne_iff_ne.mpr c24
                by_cases c25 : (bt a0 x3_1) = 45
                ·rw [if_pos c25] at H
                 have c25b0 : ((bt a0 x3_1) == 45) = true := beq_iff_eq.mpr c25
                 have c25b1 : ((bt a0 x3_1) != 45) = false := bne_eq_false_iff_eq.mpr c25
                 clear c25
                 have H' := Aside0.mk H
                 clear H
                 go_wp2
                 go_meet
                 case rel => exact ⟨_, (((bt a0 x3_1) == 45)), sd_, H', ⟨by have := HK1.out; have := HJ4.out; first | omega | exact Nat.le_refl _⟩, by repeat (first | exact Drawn0.refl _ | apply Drawn0.step)⟩
                ·rw [if_neg c25] at H
                 have c25b0 : ((bt a0 x3_1) == 45) = false := beq_eq_false_iff_ne.mpr c25
                 have c25b1 : ((bt a0 x3_1) != 45) = true := bne_iff_ne.mpr c25
                 by_cases c26 : (bt a0 x3_1) = 46
                 ·rw [if_pos c26] at H
                  have c26b0 : ((bt a0 x3_1) == 46) = true := beq_iff_eq.mpr c26
                  have c26b1 : ((bt a0 x3_1) != 46) = false := bne_eq_false_iff_eq.mpr c26
                  clear c26
                  have H' := Aside0.mk H
                  clear H
                  go_wp2
                  go_meet
                  case rel => exact ⟨_, (((bt a0 x3_1) == 46)), sd_, H', ⟨by have := HK1.out; have := HJ4.out; first | omega | exact Nat.le_refl _⟩, by repeat (first | exact Drawn0.refl _ | apply Drawn0.step)⟩
                 ·rw [if_neg c26] at H
                  have c26b0 : ((bt a0 x3_1) == 46) = false := beq_eq_false_iff_ne.mpr c26
                  have c26b1 : ((bt a0 x3_1) != 46) = true := bne_iff_ne.mpr c26
                  by_cases c27 : (bt a0 x3_1) = 94
                  ·rw [if_pos c27] at H
                   have c27b0 : ((bt a0 x3_1) == 94) = true := beq_iff_eq.mpr c27
                   have c27b1 : ((bt a0 x3_1) != 94) = false := bne_eq_false_iff_eq.mpr c27
                   clear c27
                   have H' := Aside0.mk H
                   clear H
                   go_wp2
                   go_meet
                   case rel => exact ⟨_, (((bt a0 x3_1) == 94)), sd_, H', ⟨by have := HK1.out; have := HJ4.out; first | omega | exact Nat.le_refl _⟩, by repeat (first | exact Drawn0.refl _ | apply Drawn0.step)⟩
                  ·rw [if_neg c27] at H
                   have c27b0 : ((bt a0 x3_1) == 94) = false := beq_eq_false_iff_ne.mpr c27
                   have c27b1 : ((bt a0 x3_1) != 94) = true := bne_iff_ne.mpr c27
                   by_cases c28 : (bt a0 x3_1) = 95
                   ·rw [if_pos c28] at H
                    have c28b0 : ((bt a0 x3_1) == 95) = true := beq_iff_eq.mpr c28
                    have c28b1 : ((bt a0 x3_1) != 95) = false := bne_eq_false_iff_eq.mpr c28
                    clear c28
                    have H' := Aside0.mk H
                    clear H
                    go_wp2
                    go_meet
                    case rel => exact ⟨_, (((bt a0 x3_1) == 95)), sd_, H', ⟨by have := HK1.out; have := HJ4.out; first | omega | exact Nat.le_refl _⟩, by repeat (first | exact Drawn0.refl _ | apply Drawn0.step)⟩
                   ·rw [if_neg c28] at H
                    have c28b0 : ((bt a0 x3_1) == 95) = false := beq_eq_false_iff_ne.mpr c28
                    have c28b1 : ((bt a0 x3_1) != 95) = true := bne_iff_ne.mpr c28
                    by_cases c29 : (bt a0 x3_1) = 96
                    ·rw [if_pos c29] at H
                     have c29b0 : ((bt a0 x3_1) == 96) = true := beq_iff_eq.mpr c29
                     have c29b1 : ((bt a0 x3_1) != 96) = false := bne_eq_false_iff_eq.mpr c29
                     clear c29
                     have H' := Aside0.mk H
                     clear H
                     go_wp2
                     go_meet
                     case rel => exact ⟨_, (((bt a0 x3_1) == 96)), sd_, H', ⟨by have := HK1.out; have := HJ4.out; first | omega | exact Nat.le_refl _⟩, by repeat (first | exact Drawn0.refl _ | apply Drawn0.step)⟩
                    ·rw [if_neg c29] at H
                     have c29b0 : ((bt a0 x3_1) == 96) = false := beq_eq_false_iff_ne.mpr c29
                     have c29b1 : ((bt a0 x3_1) != 96) = true := bne_iff_ne.mpr c29
                     by_cases c30 : (bt a0 x3_1) = 124
                     ·rw [if_pos c30] at H
                      have c30b0 : ((bt a0 x3_1) == 124) = true := beq_iff_eq.mpr c30
                      have c30b1 : ((bt a0 x3_1) != 124) = false := bne_eq_false_iff_eq.mpr c30
                      clear c30
                      have H' := Aside0.mk H
                      clear H
                      go_wp2
                      go_meet
                      case rel => exact ⟨_, (((bt a0 x3_1) == 124)), sd_, H', ⟨by have := HK1.out; have := HJ4.out; first | omega | exact Nat.le_refl _⟩, by repeat (first | exact Drawn0.refl _ | apply Drawn0.step)⟩
                     ·rw [if_neg c30] at H
                      have c30b0 : ((bt a0 x3_1) == 124) = false := beq_eq_false_iff_ne.mpr c30
                      have c30b1 : ((bt a0 x3_1) != 124) = true := bne_iff_ne.mpr c30
                      have H' := Aside0.mk H
                      clear H
                      go_wp2
                      go_meet
                      case rel => exact ⟨_, (((bt a0 x3_1) == 126)), sd_, H', ⟨by have := HK1.out; have := HJ4.out; first | omega | exact Nat.le_refl _⟩, by repeat (first | exact Drawn0.refl _ | apply Drawn0.step)⟩
       case rest =>
        clear HC16
        try clear c1
        try clear c2
        try clear c2b0
        try clear p2
        try clear c3
        try clear c3b0
        try clear c4
        try clear p4
        try clear q4
        try clear hx4
        try clear c6
        try clear c6b0
        try clear c6b1
        try clear c6b2
        try clear c7
        try clear c7b0
        try clear c8
        try clear c8b0
        try clear c9
        try clear c9b0
        try clear c10
        try clear c10b0
        try clear c11
        try clear c11b0
        try clear c12
        try clear c12b0
        try clear c13
        try clear c13b0
        try clear c14
        try clear c14b0
        try clear c15
        try clear c15b0
        try clear c17
        try clear c17b0
        try clear c17b1
        try clear c17b2
        try clear c18
        try clear c18b0
        try clear c18b1
        try clear c19
        try clear c19b0
        try clear c19b1
        try clear c20
        try clear c20b0
        try clear c20b1
        try clear c21
        try clear c21b0
        try clear c21b1
        try clear c22
        try clear c22b0
        try clear c22b1
        try clear c23
        try clear c23b0
        try clear c23b1
        try clear c24
        try clear c24b0
        try clear c24b1
        try clear c25
        try clear c25b0
        try clear c25b1
        try clear c26
        try clear c26b0
        try clear c26b1
        try clear c27
        try clear c27b0
        try clear c27b1
        try clear c28
        try clear c28b0
        try clear c28b1
        try clear c29
        try clear c29b0
        try clear c29b1
        try clear c30
        try clear c30b0
        try clear c30b1
        try clear p2
        try clear p4
        try clear q4
        obtain ⟨kq, x38_15, rfl, HA, HJ15, ⟨mc15, rfl⟩⟩ := hcut
        cases kq with
        | zero => exact absurd HA.out (by simp [tollref05_Token.j2])
        | succ kj15 =>
         have H := HA.out
         clear HA
         simp only [tollref05_Token.j2] at H
         by_cases c31 : x38_15 = true
         ·subst c31
          have H1 : (tollref05_Token.l0 kj15 a0 (wrap64 (x3_1 + 1))) = some r := by rw [if_pos rfl] at H; exact H
          clear H
          have H := H1
          clear H1
          have H' := Aside0.mk H
          clear H
          go_wp2
          go_roundg kj15
          case measure => have := HK1.out; have := HJ4.out; have := HJ15.out; omega
          case rel => exact ⟨(wrap64 (x3_1 + 1)), sd_, H', ⟨by have := HK1.out; have := HJ4.out; have := HJ15.out; omega⟩, by repeat (first | exact Drawn0.refl _ | apply Drawn0.step)⟩
         ·replace c31 := Bool.eq_false_iff.mpr c31
          subst c31
          have H1 : (if x5_4 = true then (tollref05_Token.l0 kj15 a0 (wrap64 (x3_1 + 1))) else (some false)) = some r := by rw [if_neg (show ¬ (false = true) by decide)] at H; exact H
          clear H
          have H := H1
          clear H1
          by_cases c32 : x5_4 = true
          ·subst c32
           have H1 : (tollref05_Token.l0 kj15 a0 (wrap64 (x3_1 + 1))) = some r := by rw [if_pos rfl] at H; exact H
           clear H
           have H := H1
           clear H1
           have H' := Aside0.mk H
           clear H
           go_wp2
           go_roundg kj15
           case measure => have := HK1.out; have := HJ4.out; have := HJ15.out; omega
           case rel => exact ⟨(wrap64 (x3_1 + 1)), sd_, H', ⟨by have := HK1.out; have := HJ4.out; have := HJ15.out; omega⟩, by repeat (first | exact Drawn0.refl _ | apply Drawn0.step)⟩
          ·replace c32 := Bool.eq_false_iff.mpr c32
           subst c32
           have H1 : (some false) = some r := by rw [if_neg (show ¬ (false = true) by decide)] at H; exact H
           clear H
           have H := H1
           clear H1
           obtain rfl := Option.some.inj H
           go_wp2
           go_ret
           exact ⟨by first | rfl | (simp; done) | (simp [*]; done) | (simp [bne_nil_isEmpty, beq_nil_isEmpty]; done) | (simp [*, bne_nil_isEmpty, beq_nil_isEmpty]; done), by repeat (first | exact Drawn0.refl _ | apply Drawn0.step)⟩
    ·rw [if_neg c3] at H
     exact absurd H (by simp)
   ·rw [if_neg c2] at H
    have c2b0 : decide (x3_1 < (a0.size : Int)) = false := decide_eq_false c2
    clear c2
    by_cases c33 : 1 ≤ (a0.size : Int)
    ·rw [if_pos c33] at H
     have c33b0 : decide (1 ≤ (a0.size : Int)) = true := decide_eq_true c33
     have c33b1 : decide (1 ≤ a0.size) = true := decide_eq_true (by omega)
     clear c33
     obtain rfl := Option.some.inj H
     go_wp2
     go_ret
     exact ⟨by first | rfl | (simp; done) | (simp [*]; done) | (simp [bne_nil_isEmpty, beq_nil_isEmpty]; done) | (simp [*, bne_nil_isEmpty, beq_nil_isEmpty]; done), by repeat (first | exact Drawn0.refl _ | apply Drawn0.step)⟩
    ·rw [if_neg c33] at H
     have c33b0 : decide (1 ≤ (a0.size : Int)) = false := decide_eq_false c33
     have c33b1 : decide (1 ≤ a0.size) = false := decide_eq_false (by omega)
     clear c33
     obtain rfl := Option.some.inj H
     go_wp2
     go_ret
     exact ⟨by first | rfl | (simp; done) | (simp [*]; done) | (simp [bne_nil_isEmpty, beq_nil_isEmpty]; done) | (simp [*, bne_nil_isEmpty, beq_nil_isEmpty]; done), by repeat (first | exact Drawn0.refl _ | apply Drawn0.step)⟩

/-! ### tollref05_Value: function 32 -/
def tollref05_Value.l0 : Nat → ByteArray → Int → Option (Bool)
 | 0, _, _ => none
 | k + 1, x0, x3 => if x3 < (x0.size : Int) then (if x3 = 0 then (if 0 ≤ x3 then (if (bt x0 x3) < 32 then (some false) else (if (bt x0 x3) > 126 then (some false) else (if (bt x0 x3) = 32 then (some false) else (tollref05_Value.l0 k x0 (wrap64 (x3 + 1)))))) else (none)) else (if 0 ≤ x3 then (if (bt x0 x3) < 32 then (some false) else (if (bt x0 x3) > 126 then (some false) else (if (bt x0 x3) = 32 then (if x3 = (wrap64 ((x0.size : Int) - 1)) then (some false) else (tollref05_Value.l0 k x0 (wrap64 (x3 + 1)))) else (tollref05_Value.l0 k x0 (wrap64 (x3 + 1)))))) else (none))) else (some (decide ((x0.size : Int) ≤ 40)))
def tollref05_Value.f (k : Nat) (a0 : ByteArray) : Option (Bool) := tollref05_Value.l0 k a0 0
theorem tollref05_Value.mono_l : ∀ k, (∀ y0 y1, LeO (tollref05_Value.l0 k y0 y1) (tollref05_Value.l0 (k + 1) y0 y1))
 | 0 => fun _ _ r h => by simp [tollref05_Value.l0] at h
 | k + 1 => by
  have ih0 := tollref05_Value.mono_l k
  ·intro y0 y1
   unfold tollref05_Value.l0
   repeat' first
   | (with_reducible exact ih0 _ _)
   | (with_reducible exact LeO.refl _)
   | (with_reducible exact LeO.none _)
   | (with_reducible refine LeO.ite ?_ ?_)
   | (with_reducible refine LeO.bind ?_ (fun _ => ?_))
   | exact ih0 _ _
   | exact LeO.none _
   | refine LeO.ite ?_ ?_
   | refine LeO.bind ?_ (fun _ => ?_)
theorem tollref05_Value.mono : ∀ a0 k, LeO (tollref05_Value.f k a0) (tollref05_Value.f (k + 1) a0) := by
 intro a0 k
 have ih0 := tollref05_Value.mono_l k
 unfold tollref05_Value.f
 repeat' first
   | (with_reducible exact ih0 _ _)
   | (with_reducible exact LeO.refl _)
   | (with_reducible exact LeO.none _)
   | (with_reducible refine LeO.ite ?_ ?_)
   | (with_reducible refine LeO.bind ?_ (fun _ => ?_))
   | exact ih0 _ _
   | exact LeO.none _
   | refine LeO.ite ?_ ?_
   | refine LeO.bind ?_ (fun _ => ?_)
set_option maxHeartbeats 8000000 in
set_option maxRecDepth 100000 in
theorem tollref05_Value.calls (k : Nat) (a0 : ByteArray) (r : Bool) (w : World) (h : tollref05_Value.f k a0 = some r) :
  Calls Tryz.prog 32 #[.string a0] w fun e w' => e = .returned (.bool r) ∧ Drawn0 w w' := by
 have H : (tollref05_Value.l0 k a0 0) = some r := h
 clear h
 have H' := Aside0.mk H
 clear H
 go_enter Tryz.func32, Tryz.ntmps32
 go_wp2
 go_loopg [3] k (fun kq v3 w' => ∃ (x3_1 : Int), v3 = .int .i64 x3_1 ∧ Aside0 (tollref05_Value.l0 kq a0 x3_1 = some r) ∧ Aside0 (kq ≤ k) ∧ Drawn0 w w')
 case atStart => exact ⟨(0), sd_, H', ⟨Nat.le_refl _⟩, by repeat (first | exact Drawn0.refl _ | apply Drawn0.step)⟩
 case round =>
  clear H'
  obtain ⟨x3_1, rfl, HA, HK1, ⟨m1, rfl⟩⟩ := hrel
  cases gk with
  | zero => exact absurd HA.out (by simp [tollref05_Value.l0])
  | succ k1 =>
   have H := HA.out
   clear HA
   simp only [tollref05_Value.l0] at H
   by_cases c2 : x3_1 < (a0.size : Int)
   ·rw [if_pos c2] at H
    have c2b0 : decide (x3_1 < (a0.size : Int)) = true := decide_eq_true c2
    clear c2
    by_cases c3 : x3_1 = 0
    ·rw [if_pos c3] at H
     have c3b0 : (x3_1 == 0) = true := beq_iff_eq.mpr c3
     have c3b1 : (x3_1 != 0) = false := bne_eq_false_iff_eq.mpr c3
     clear c3
     by_cases c4 : 0 ≤ x3_1
     ·rw [if_pos c4] at H
      have c4b0 : decide (0 ≤ x3_1) = true := decide_eq_true c4
      clear c4
      by_cases c6 : (bt a0 x3_1) < 32
      ·rw [if_pos c6] at H
       have c6b0 : decide ((bt a0 x3_1) < 32) = true := decide_eq_true c6
       clear c6
       obtain rfl := Option.some.inj H
       have p5 : 0 ≤ (x3_1 : Int) := of_decide_eq_true as_
       have q5 : x3_1 < (a0.size : Int) := of_decide_eq_true as_
       have hx5 := bt_at a0 x3_1
       replace p5 := eq_true p5
       replace q5 := eq_true q5
       go_wp2
       go_ret
       exact ⟨by first | rfl | (simp; done) | (simp [*]; done) | (simp [bne_nil_isEmpty, beq_nil_isEmpty]; done) | (simp [*, bne_nil_isEmpty, beq_nil_isEmpty]; done), by repeat (first | exact Drawn0.refl _ | apply Drawn0.step)⟩
      ·rw [if_neg c6] at H
       have c6b0 : decide ((bt a0 x3_1) < 32) = false := decide_eq_false c6
       clear c6
       by_cases c8 : (bt a0 x3_1) > 126
       ·rw [if_pos c8] at H
        have c8b0 : decide (126 < (bt a0 x3_1)) = true := decide_eq_true c8
        clear c8
        obtain rfl := Option.some.inj H
        have p5 : 0 ≤ (x3_1 : Int) := of_decide_eq_true as_
        have q5 : x3_1 < (a0.size : Int) := of_decide_eq_true as_
        have hx5 := bt_at a0 x3_1
        replace p5 := eq_true p5
        replace q5 := eq_true q5
        have p7 : 0 ≤ (x3_1 : Int) := of_decide_eq_true as_
        have q7 : x3_1 < (a0.size : Int) := of_decide_eq_true as_
        have hx7 := bt_at a0 x3_1
        replace p7 := eq_true p7
        replace q7 := eq_true q7
        go_wp2
        go_ret
        exact ⟨by first | rfl | (simp; done) | (simp [*]; done) | (simp [bne_nil_isEmpty, beq_nil_isEmpty]; done) | (simp [*, bne_nil_isEmpty, beq_nil_isEmpty]; done), by repeat (first | exact Drawn0.refl _ | apply Drawn0.step)⟩
       ·rw [if_neg c8] at H
        have c8b0 : decide (126 < (bt a0 x3_1)) = false := decide_eq_false c8
        clear c8
        by_cases c10 : (bt a0 x3_1) = 32
        ·rw [if_pos c10] at H
         have c10b0 : ((bt a0 x3_1) == 32) = true := beq_iff_eq.mpr c10
         have c10b1 : ((bt a0 x3_1) != 32) = false := bne_eq_false_iff_eq.mpr c10
         clear c10
         obtain rfl := Option.some.inj H
         have p5 : 0 ≤ (x3_1 : Int) := of_decide_eq_true as_
         have q5 : x3_1 < (a0.size : Int) := of_decide_eq_true as_
         have hx5 := bt_at a0 x3_1
         replace p5 := eq_true p5
         replace q5 := eq_true q5
         have p7 : 0 ≤ (x3_1 : Int) := of_decide_eq_true as_
         have q7 : x3_1 < (a0.size : Int) := of_decide_eq_true as_
         have hx7 := bt_at a0 x3_1
         replace p7 := eq_true p7
         replace q7 := eq_true q7
         have p9 : 0 ≤ (x3_1 : Int) := of_decide_eq_true as_
         have q9 : x3_1 < (a0.size : Int) := of_decide_eq_true as_
         have hx9 := bt_at a0 x3_1
         replace p9 := eq_true p9
         replace q9 := eq_true q9
         go_wp2
         go_ret
         exact ⟨by first | rfl | (simp; done) | (simp [*]; done) | (simp [bne_nil_isEmpty, beq_nil_isEmpty]; done) | (simp [*, bne_nil_isEmpty, beq_nil_isEmpty]; done), by repeat (first | exact Drawn0.refl _ | apply Drawn0.step)⟩
        ·rw [if_neg c10] at H
         have c10b0 : ((bt a0 x3_1) == 32) = false := beq_eq_false_iff_ne.mpr c10
         have c10b1 : ((bt a0 x3_1) != 32) = true := bne_iff_ne.mpr c10
         have H' := Aside0.mk H
         clear H
         have p5 : 0 ≤ (x3_1 : Int) := of_decide_eq_true as_
         have q5 : x3_1 < (a0.size : Int) := of_decide_eq_true as_
         have hx5 := bt_at a0 x3_1
         replace p5 := eq_true p5
         replace q5 := eq_true q5
         have p7 : 0 ≤ (x3_1 : Int) := of_decide_eq_true as_
         have q7 : x3_1 < (a0.size : Int) := of_decide_eq_true as_
         have hx7 := bt_at a0 x3_1
         replace p7 := eq_true p7
         replace q7 := eq_true q7
         have p9 : 0 ≤ (x3_1 : Int) := of_decide_eq_true as_
         have q9 : x3_1 < (a0.size : Int) := of_decide_eq_true as_
         have hx9 := bt_at a0 x3_1
         replace p9 := eq_true p9
         replace q9 := eq_true q9
         go_wp2
         go_roundg k1
         case measure => have := HK1.out; omega
         case rel => exact ⟨(wrap64 (x3_1 + 1)), sd_, H', ⟨by have := HK1.out; omega⟩, by repeat (first | exact Drawn0.refl _ | apply Drawn0.step)⟩
     ·rw [if_neg c4] at H
      exact absurd H (by simp)
    ·rw [if_neg c3] at H
     have c3b0 : (x3_1 == 0) = false := beq_eq_false_iff_ne.mpr c3
     have c3b1 : (x3_1 != 0) = true := bne_iff_ne.mpr c3
     by_cases c11 : 0 ≤ x3_1
     ·rw [if_pos c11] at H
      have c11b0 : decide (0 ≤ x3_1) = true := decide_eq_true c11
      clear c11
      by_cases c13 : (bt a0 x3_1) < 32
      ·rw [if_pos c13] at H
       have c13b0 : decide ((bt a0 x3_1) < 32) = true := decide_eq_true c13
       clear c13
       obtain rfl := Option.some.inj H
       have p12 : 0 ≤ (x3_1 : Int) := of_decide_eq_true as_
       have q12 : x3_1 < (a0.size : Int) := of_decide_eq_true as_
       have hx12 := bt_at a0 x3_1
       replace p12 := eq_true p12
       replace q12 := eq_true q12
       go_wp2
       go_ret
       exact ⟨by first | rfl | (simp; done) | (simp [*]; done) | (simp [bne_nil_isEmpty, beq_nil_isEmpty]; done) | (simp [*, bne_nil_isEmpty, beq_nil_isEmpty]; done), by repeat (first | exact Drawn0.refl _ | apply Drawn0.step)⟩
      ·rw [if_neg c13] at H
       have c13b0 : decide ((bt a0 x3_1) < 32) = false := decide_eq_false c13
       clear c13
       by_cases c15 : (bt a0 x3_1) > 126
       ·rw [if_pos c15] at H
        have c15b0 : decide (126 < (bt a0 x3_1)) = true := decide_eq_true c15
        clear c15
        obtain rfl := Option.some.inj H
        have p12 : 0 ≤ (x3_1 : Int) := of_decide_eq_true as_
        have q12 : x3_1 < (a0.size : Int) := of_decide_eq_true as_
        have hx12 := bt_at a0 x3_1
        replace p12 := eq_true p12
        replace q12 := eq_true q12
        have p14 : 0 ≤ (x3_1 : Int) := of_decide_eq_true as_
        have q14 : x3_1 < (a0.size : Int) := of_decide_eq_true as_
        have hx14 := bt_at a0 x3_1
        replace p14 := eq_true p14
        replace q14 := eq_true q14
        go_wp2
        go_ret
        exact ⟨by first | rfl | (simp; done) | (simp [*]; done) | (simp [bne_nil_isEmpty, beq_nil_isEmpty]; done) | (simp [*, bne_nil_isEmpty, beq_nil_isEmpty]; done), by repeat (first | exact Drawn0.refl _ | apply Drawn0.step)⟩
       ·rw [if_neg c15] at H
        have c15b0 : decide (126 < (bt a0 x3_1)) = false := decide_eq_false c15
        clear c15
        by_cases c17 : (bt a0 x3_1) = 32
        ·rw [if_pos c17] at H
         have c17b0 : ((bt a0 x3_1) == 32) = true := beq_iff_eq.mpr c17
         have c17b1 : ((bt a0 x3_1) != 32) = false := bne_eq_false_iff_eq.mpr c17
         clear c17
         by_cases c18 : x3_1 = (wrap64 ((a0.size : Int) - 1))
         ·rw [if_pos c18] at H
          have c18b0 : (x3_1 == (wrap64 ((a0.size : Int) - 1))) = true := beq_iff_eq.mpr c18
          have c18b1 : (x3_1 != (wrap64 ((a0.size : Int) - 1))) = false := bne_eq_false_iff_eq.mpr c18
          clear c18
          obtain rfl := Option.some.inj H
          have p12 : 0 ≤ (x3_1 : Int) := of_decide_eq_true as_
          have q12 : x3_1 < (a0.size : Int) := of_decide_eq_true as_
          have hx12 := bt_at a0 x3_1
          replace p12 := eq_true p12
          replace q12 := eq_true q12
          have p14 : 0 ≤ (x3_1 : Int) := of_decide_eq_true as_
          have q14 : x3_1 < (a0.size : Int) := of_decide_eq_true as_
          have hx14 := bt_at a0 x3_1
          replace p14 := eq_true p14
          replace q14 := eq_true q14
          have p16 : 0 ≤ (x3_1 : Int) := of_decide_eq_true as_
          have q16 : x3_1 < (a0.size : Int) := of_decide_eq_true as_
          have hx16 := bt_at a0 x3_1
          replace p16 := eq_true p16
          replace q16 := eq_true q16
          go_wp2
          go_ret
          exact ⟨by first | rfl | (simp; done) | (simp [*]; done) | (simp [bne_nil_isEmpty, beq_nil_isEmpty]; done) | (simp [*, bne_nil_isEmpty, beq_nil_isEmpty]; done), by repeat (first | exact Drawn0.refl _ | apply Drawn0.step)⟩
         ·rw [if_neg c18] at H
          have c18b0 : (x3_1 == (wrap64 ((a0.size : Int) - 1))) = false := beq_eq_false_iff_ne.mpr c18
          have c18b1 : (x3_1 != (wrap64 ((a0.size : Int) - 1))) = true := bne_iff_ne.mpr c18
          have H' := Aside0.mk H
          clear H
          have p12 : 0 ≤ (x3_1 : Int) := of_decide_eq_true as_
          have q12 : x3_1 < (a0.size : Int) := of_decide_eq_true as_
          have hx12 := bt_at a0 x3_1
          replace p12 := eq_true p12
          replace q12 := eq_true q12
          have p14 : 0 ≤ (x3_1 : Int) := of_decide_eq_true as_
          have q14 : x3_1 < (a0.size : Int) := of_decide_eq_true as_
          have hx14 := bt_at a0 x3_1
          replace p14 := eq_true p14
          replace q14 := eq_true q14
          have p16 : 0 ≤ (x3_1 : Int) := of_decide_eq_true as_
          have q16 : x3_1 < (a0.size : Int) := of_decide_eq_true as_
          have hx16 := bt_at a0 x3_1
          replace p16 := eq_true p16
          replace q16 := eq_true q16
          go_wp2
          go_roundg k1
          case measure => have := HK1.out; omega
          case rel => exact ⟨(wrap64 (x3_1 + 1)), sd_, H', ⟨by have := HK1.out; omega⟩, by repeat (first | exact Drawn0.refl _ | apply Drawn0.step)⟩
        ·rw [if_neg c17] at H
         have c17b0 : ((bt a0 x3_1) == 32) = false := beq_eq_false_iff_ne.mpr c17
         have c17b1 : ((bt a0 x3_1) != 32) = true := bne_iff_ne.mpr c17
         have H' := Aside0.mk H
         clear H
         have p12 : 0 ≤ (x3_1 : Int) := of_decide_eq_true as_
         have q12 : x3_1 < (a0.size : Int) := of_decide_eq_true as_
         have hx12 := bt_at a0 x3_1
         replace p12 := eq_true p12
         replace q12 := eq_true q12
         have p14 : 0 ≤ (x3_1 : Int) := of_decide_eq_true as_
         have q14 : x3_1 < (a0.size : Int) := of_decide_eq_true as_
         have hx14 := bt_at a0 x3_1
         replace p14 := eq_true p14
         replace q14 := eq_true q14
         have p16 : 0 ≤ (x3_1 : Int) := of_decide_eq_true as_
         have q16 : x3_1 < (a0.size : Int) := of_decide_eq_true as_
         have hx16 := bt_at a0 x3_1
         replace p16 := eq_true p16
         replace q16 := eq_true q16
         go_wp2
         go_roundg k1
         case measure => have := HK1.out; omega
         case rel => exact ⟨(wrap64 (x3_1 + 1)), sd_, H', ⟨by have := HK1.out; omega⟩, by repeat (first | exact Drawn0.refl _ | apply Drawn0.step)⟩
     ·rw [if_neg c11] at H
      exact absurd H (by simp)
   ·rw [if_neg c2] at H
    have c2b0 : decide (x3_1 < (a0.size : Int)) = false := decide_eq_false c2
    clear c2
    obtain rfl := Option.some.inj H
    go_wp2
    go_ret
    exact ⟨by first | rfl | (simp; done) | (simp [*]; done) | (simp [bne_nil_isEmpty, beq_nil_isEmpty]; done) | (simp [*, bne_nil_isEmpty, beq_nil_isEmpty]; done), by repeat (first | exact Drawn0.refl _ | apply Drawn0.step)⟩

/-! ### tollref01_Split: function 81 -/
def tollref01_Split.l0 : Nat → ByteArray → Int → List ByteArray → Int → Option (List ByteArray)
 | 0, _, _, _, _ => none
 | k + 1, x0, x1, x5, x6 => if x6 < (x0.size : Int) then (if 0 ≤ x6 then (if (bt x0 x6) = x1 then (if x5.length < 8796093022208 then (tollref01_Split.l0 k x0 x1 (x5 ++ [(⟨#[]⟩ : ByteArray)]) (wrap64 (x6 + 1))) else (none)) else (if 0 ≤ (wrap64 ((x5.length : Int) - 1)) then (if (wrap64 ((x5.length : Int) - 1)) < (x5.length : Int) then (if x6 ≤ (wrap64 (x6 + 1)) then (if (wrap64 (x6 + 1)) ≤ (x0.size : Int) then (if (rdOf ByteArray.empty x5 (wrap64 ((x5.length : Int) - 1))).size + (x0.extract (x6 : Int).toNat ((wrap64 (x6 + 1)) : Int).toNat).size ≤ 9223372036854775807 then (tollref01_Split.l0 k x0 x1 (x5.set ((wrap64 ((x5.length : Int) - 1)) : Int).toNat ((rdOf ByteArray.empty x5 (wrap64 ((x5.length : Int) - 1))) ++ (x0.extract (x6 : Int).toNat ((wrap64 (x6 + 1)) : Int).toNat))) (wrap64 (x6 + 1))) else (none)) else (none)) else (none)) else (none)) else (none))) else (none)) else (some x5)
def tollref01_Split.f (k : Nat) (a0 : ByteArray) (a1 : Int) : Option (List ByteArray) := tollref01_Split.l0 k a0 a1 (([(⟨#[]⟩ : ByteArray)] : List ByteArray)) 0
theorem tollref01_Split.mono_l : ∀ k, (∀ y0 y1 y2 y3, LeO (tollref01_Split.l0 k y0 y1 y2 y3) (tollref01_Split.l0 (k + 1) y0 y1 y2 y3))
 | 0 => fun _ _ _ _ r h => by simp [tollref01_Split.l0] at h
 | k + 1 => by
  have ih0 := tollref01_Split.mono_l k
  ·intro y0 y1 y2 y3
   unfold tollref01_Split.l0
   repeat' first
   | (with_reducible exact ih0 _ _ _ _)
   | (with_reducible exact LeO.refl _)
   | (with_reducible exact LeO.none _)
   | (with_reducible refine LeO.ite ?_ ?_)
   | (with_reducible refine LeO.bind ?_ (fun _ => ?_))
   | exact ih0 _ _ _ _
   | exact LeO.none _
   | refine LeO.ite ?_ ?_
   | refine LeO.bind ?_ (fun _ => ?_)
theorem tollref01_Split.mono : ∀ a0 a1 k, LeO (tollref01_Split.f k a0 a1) (tollref01_Split.f (k + 1) a0 a1) := by
 intro a0 a1 k
 have ih0 := tollref01_Split.mono_l k
 unfold tollref01_Split.f
 repeat' first
   | (with_reducible exact ih0 _ _ _ _)
   | (with_reducible exact LeO.refl _)
   | (with_reducible exact LeO.none _)
   | (with_reducible refine LeO.ite ?_ ?_)
   | (with_reducible refine LeO.bind ?_ (fun _ => ?_))
   | exact ih0 _ _ _ _
   | exact LeO.none _
   | refine LeO.ite ?_ ?_
   | refine LeO.bind ?_ (fun _ => ?_)
def tollref01_Split.T7 : Bool × List (List Nat × List Nat) := (true, [([], []), ([], []), ([1], [1]), ([2], [2]), ([0, 3], [0, 3]), ([4], [4]), ([], []), ([], []), ([], []), ([8], [8]), ([6, 7, 9], [6, 7, 9]), ([5, 10], [5, 10]), ([0, 3, 0, 1, 2, 3, 4, 5, 6, 7, 8, 9, 10, 11], [0, 3]), ([12, 11, 0, 1, 2, 3, 4, 5, 6, 7, 8, 9, 10, 11], [11, 12])])
def tollref01_Split.B7 : List Nat := [0, 0, 2, 6, 15, 31, 0, 0, 0, 256, 960, 2047, 4095, 8191]
theorem tollref01_Split.tab7 : rtab .any (opsOf Tryz.f81 7) = tollref01_Split.T7 := by kernel_rfl
theorem tollref01_Split.bits7 : waitsOk tollref01_Split.T7.2 tollref01_Split.B7 = true := by kernel_rfl
set_option maxHeartbeats 8000000 in
set_option maxRecDepth 100000 in
theorem tollref01_Split.calls (k : Nat) (a0 : ByteArray) (a1 : Int) (r : List ByteArray) (w : World) (h : tollref01_Split.f k a0 a1 = some r) :
  Calls Tryz.prog 81 #[.string a0, .int .u8 a1] w fun e w' => ∃ v0_ : Value, e = .returned (v0_) ∧ Kd.R Kd.string 9 w' w.heap.size (fun _ => True) v0_ r ∧ Below w.heap.size w w' := by
 have HB := am_ (Below.refl w.heap.size w)
 have H : (tollref01_Split.l0 k a0 a1 (([(⟨#[]⟩ : ByteArray)] : List ByteArray)) 0) = some r := h
 clear h
 obtain ⟨y140, hy140⟩ : ∃ y_ : List ByteArray, y_ = (([(⟨#[]⟩ : ByteArray)] : List ByteArray)) := ⟨_, rfl⟩
 replace H : (tollref01_Split.l0 k a0 a1 y140 0) = some r := by first | (rw [hy140]; with_reducible exact H) | (have H2_ := (Option.bind_some _ _).symm.trans H; rw [hy140]; with_reducible exact H2_) | (have H2_ := (Option.bind_some _ _).symm.trans H; with_reducible exact H2_) | with_reducible exact H | (rw [hy140]; exact H) | exact H
 have Ny140 := Aside0.mk hy140
 clear hy140
 have H' := Aside0.mk H
 clear H
 go_enter Tryz.func81, Tryz.ntmps81
 go_wp2_with (first | ((with_reducible refine gate_dst (N := 7) rfl ?_); refine Kd.R_lit Kd.string _ 9 ?hg (N := 7) ?hd (xs := ([(⟨#[]⟩ : ByteArray)] : List ByteArray)) (inner := [.string (⟨#[]⟩ : ByteArray)]) (ok := fun _ => True) (okp := fun _ => True) ?hr ?hp (fun _ hk => hk) trivial (Below.refl _ _) (Nat.le_refl _) (by simp) ?_; (case hd => rfl); (case hg => rfl); (case hr => first | (go_simp; done) | (go_simp; rfl)); (case hp => exact (Reps.one (show Kd.M Kd.string _ _ _ (⟨#[]⟩ : ByteArray) [.string (⟨#[]⟩ : ByteArray)] from rfl) (Reps.none _ _))); intro v141 w3 ho4 hb hg_ hnew_; clear hg_ hnew_; (first | rw [← Ny140.out] at ho4 | (simp only [Int.reduceToNat] at ho4; rw [← Ny140.out] at ho4)); have n0_ := am_ (Kd.R_lower ho4 (below_size (bel_ HB.out))); have n1_ := am_ (below_step (bel_ HB.out) hb); clear HB; have HO142 := n0_; have HB := n1_; clear n0_ n1_ hb ho4))
 go_loopg [5, 6] k (fun kq v5 v6 w' => ∃ (x5_1 : List ByteArray) (x6_1 : Int), v6 = .int .i64 x6_1 ∧ Aside0 (tollref01_Split.l0 kq a0 a1 x5_1 x6_1 = some r) ∧ Aside0 (kq ≤ k) ∧ Aside0 (Kd.R Kd.string 9 w' w.heap.size (fun _ => True) v5 x5_1) ∧ Aside0 (Below w.heap.size w w'))
 case atStart => exact ⟨(y140), (0), sd_, H', ⟨Nat.le_refl _⟩, ⟨by (with_reducible repeat (first | apply Kd.R_alloc | apply Kd.R_drewN | apply Kd.R_drew)); exact HO142.out⟩, ⟨bel_ HB.out⟩⟩
 case round =>
  clear H'
  try clear p2
  obtain ⟨x5_1, x6_1, rfl, HA, HK1, HO_5, HB⟩ := hrel
  cases gk with
  | zero => exact absurd HA.out (by simp [tollref01_Split.l0])
  | succ k1 =>
   have H := HA.out
   clear HA
   simp only [tollref01_Split.l0] at H
   by_cases c5 : x6_1 < (a0.size : Int)
   ·rw [if_pos c5] at H
    have c5b0 : decide (x6_1 < (a0.size : Int)) = true := decide_eq_true c5
    clear c5
    by_cases c6 : 0 ≤ x6_1
    ·rw [if_pos c6] at H
     have c6b0 : decide (0 ≤ x6_1) = true := decide_eq_true c6
     clear c6
     by_cases c8 : (bt a0 x6_1) = a1
     ·rw [if_pos c8] at H
      have c8b0 : ((bt a0 x6_1) == a1) = true := beq_iff_eq.mpr c8
      have c8b1 : ((bt a0 x6_1) != a1) = false := bne_eq_false_iff_eq.mpr c8
      clear c8
      by_cases c9 : x5_1.length < 8796093022208
      ·rw [if_pos c9] at H
       have LMc9 := Aside0.mk c9
       clear c9
       obtain ⟨y143, hy143⟩ : ∃ y_ : List ByteArray, y_ = (x5_1 ++ [(⟨#[]⟩ : ByteArray)]) := ⟨_, rfl⟩
       replace H : (tollref01_Split.l0 k1 a0 a1 y143 (wrap64 (x6_1 + 1))) = some r := by first | (rw [hy143]; with_reducible exact H) | (have H2_ := (Option.bind_some _ _).symm.trans H; rw [hy143]; with_reducible exact H2_) | (have H2_ := (Option.bind_some _ _).symm.trans H; with_reducible exact H2_) | with_reducible exact H | (rw [hy143]; exact H) | exact H
       have Ny143 := Aside0.mk hy143
       clear hy143
       have H' := Aside0.mk H
       clear H
       have p7 : 0 ≤ (x6_1 : Int) := of_decide_eq_true as_
       have q7 : x6_1 < (a0.size : Int) := of_decide_eq_true as_
       have hx7 := bt_at a0 x6_1
       replace p7 := eq_true p7
       replace q7 := eq_true q7
       go_wp2_with (first | ((with_reducible refine gate_builtin (b := .append) (xs := #[.tmp 19, .tmp 20]) rfl ?_); at_builtin; refine Kd.R_append Kd.string (w0 := w) w.heap.size rfl (.tmp 19) (.tmp 20) 55 9 (.string ⟨#[]⟩) 16 rfl Tryz.underlying55 info9 rfl (by decide) (by omega) u5 x5_1 (⟨#[]⟩ : ByteArray) [.string (⟨#[]⟩ : ByteArray)] (fun _ => True) (fun _ => False) rfl rfl ?aP (fun _ hk => hk.elim) ?aF ?aO ?aB ?aS ?aL ?_; (case aP => exact rfl); (case aB => exact (bel_ HB.out)); (case aF => exact (fun _ _ => trivial)); (case aO => exact (R_ HO_5.out)); (case aS => exact (below_size (bel_ HB.out))); (case aL => have := LMc9.out; omega); intro v144 w10 ho hb hg hat; rw [← Ny143.out] at ho; have n0_ := am_ (hb); have n1_ := am_ (ho); clear HB HO_5; have HB := n0_; have HO145 := n1_; clear n0_ n1_ ho hb hg hat))
       go_roundg k1
       case measure => have := HK1.out; omega
       case rel => exact ⟨(y143), (wrap64 (x6_1 + 1)), sd_, H', ⟨by have := HK1.out; omega⟩, ⟨by (with_reducible repeat (first | apply Kd.R_alloc | apply Kd.R_drewN | apply Kd.R_drew)); exact HO145.out⟩, ⟨bel_ HB.out⟩⟩
      ·rw [if_neg c9] at H
       exact absurd H (by simp)
     ·rw [if_neg c8] at H
      have c8b0 : ((bt a0 x6_1) == a1) = false := beq_eq_false_iff_ne.mpr c8
      have c8b1 : ((bt a0 x6_1) != a1) = true := bne_iff_ne.mpr c8
      obtain ⟨ji11, hji11⟩ : ∃ j_ : Int, (wrap64 ((x5_1.length : Int) - 1)) = j_ := ⟨_, rfl⟩
      replace H : (if 0 ≤ (ji11) then (if (ji11) < (x5_1.length : Int) then (if x6_1 ≤ (wrap64 (x6_1 + 1)) then (if (wrap64 (x6_1 + 1)) ≤ (a0.size : Int) then (if (rdOf ByteArray.empty x5_1 (ji11)).size + (a0.extract (x6_1 : Int).toNat ((wrap64 (x6_1 + 1)) : Int).toNat).size ≤ 9223372036854775807 then (tollref01_Split.l0 k1 a0 a1 (x5_1.set ((ji11) : Int).toNat ((rdOf ByteArray.empty x5_1 (ji11)) ++ (a0.extract (x6_1 : Int).toNat ((wrap64 (x6_1 + 1)) : Int).toNat))) (wrap64 (x6_1 + 1))) else (none)) else (none)) else (none)) else (none)) else (none)) = some r := by first | (rw [hji11] at H; exact H) | (simp only [hji11] at H ⊢; exact H)
      have hji11w : (IntKind.i64.wrap ((x5_1.length : Int) - 1)) = ji11 := (i64_w _).trans hji11
      by_cases c12 : 0 ≤ (ji11)
      ·rw [if_pos c12] at H
       have c12b0 : decide (0 ≤ (ji11)) = true := decide_eq_true c12
       clear c12
       by_cases c13 : (ji11) < (x5_1.length : Int)
       ·rw [if_pos c13] at H
        have c13b0 : decide ((ji11) < (x5_1.length : Int)) = true := decide_eq_true c13
        clear c13
        have c14b0 := eq_true (of_decide_eq_true as_ : 0 ≤ x6_1)
        by_cases c15 : x6_1 ≤ (wrap64 (x6_1 + 1))
        ·rw [if_pos c15] at H
         have c15b0 := eq_true c15
         have c15b1 : decide (x6_1 ≤ (wrap64 (x6_1 + 1))) = true := decide_eq_true c15
         by_cases c16 : (wrap64 (x6_1 + 1)) ≤ (a0.size : Int)
         ·rw [if_pos c16] at H
          have c16b0 := eq_true c16
          have c16b1 : decide ((wrap64 (x6_1 + 1)) ≤ (a0.size : Int)) = true := decide_eq_true c16
          by_cases c17 : (rdOf ByteArray.empty x5_1 (ji11)).size + (a0.extract (x6_1 : Int).toNat ((wrap64 (x6_1 + 1)) : Int).toNat).size ≤ 9223372036854775807
          ·rw [if_pos c17] at H
           have c17b0 := eq_true c17
           have c17b1 : decide ((rdOf ByteArray.empty x5_1 (ji11)).size + (a0.extract (x6_1 : Int).toNat ((wrap64 (x6_1 + 1)) : Int).toNat).size ≤ 9223372036854775807) = true := decide_eq_true c17
           try have c17b2 : (9223372036854775807 < (rdOf ByteArray.empty x5_1 (ji11)).size + (a0.extract (x6_1 : Int).toNat ((wrap64 (x6_1 + 1)) : Int).toNat).size) = False := eq_false (Nat.not_lt.2 c17)
           (try (have c17s := c17; rw [ByteArray.size_extract, Nat.min_eq_left (by omega)] at c17s; have c17n := eq_false (Nat.not_lt.2 c17s)))
           obtain ⟨y147, hy147⟩ : ∃ y_ : List ByteArray, y_ = (x5_1.set ((ji11) : Int).toNat ((rdOf ByteArray.empty x5_1 (ji11)) ++ (a0.extract (x6_1 : Int).toNat ((wrap64 (x6_1 + 1)) : Int).toNat))) := ⟨_, rfl⟩
           replace H : (tollref01_Split.l0 k1 a0 a1 y147 (wrap64 (x6_1 + 1))) = some r := by first | (rw [hy147]; with_reducible exact H) | (have H2_ := (Option.bind_some _ _).symm.trans H; rw [hy147]; with_reducible exact H2_) | (have H2_ := (Option.bind_some _ _).symm.trans H; with_reducible exact H2_) | with_reducible exact H | (rw [hy147]; exact H) | exact H
           have Ny147 := Aside0.mk hy147
           clear hy147
           have H' := Aside0.mk H
           clear H
           have p7 : 0 ≤ (x6_1 : Int) := of_decide_eq_true as_
           have q7 : x6_1 < (a0.size : Int) := of_decide_eq_true as_
           have hx7 := bt_at a0 x6_1
           replace p7 := eq_true p7
           replace q7 := eq_true q7
           try go_wp2
           have n0_ := am_ (Kd.R_drew HO_5.out)
           have n1_ := am_ (below_drew1 HB.out)
           clear HO_5 HB
           have HO_5 := n0_
           have HB := n1_
           clear n0_ n1_
           obtain ⟨Ao20, co20, eo20⟩ := Kd.R_slice HO_5.out
           (first | subst eo20 | (injection eo20 with f1_ f2_ f3_; have f4_ := f1_.symm; have f5_ := f3_.symm; clear f1_ f2_ f3_; subst f4_; subst f5_))
           have p146 : 0 ≤ ((ji11) : Int) := of_decide_eq_true as_
           have q146 : (ji11) < (x5_1.length : Int) := of_decide_eq_true as_
           obtain ⟨ad146, e146, hx146_0⟩ := Kd.at_string (Kd.R_reads' HO_5.out).2.2 (ji11) p146 q146
           cases e146
           replace p146 := eq_true p146
           replace q146 := eq_true q146
           have p18 : 0 ≤ ((ji11) : Int) := of_decide_eq_true as_
           have q18 : ((ji11) : Int) < ((x5_1.length : Int) : Int) := of_decide_eq_true as_
           obtain ⟨go18, co18, eo18, gb18, gl18, cl18, HG18⟩ := Kd.R_form HO_5.out (by omega)
           (first | cases eo18 | (injection eo18 with ea_ en_ ec_; (first | subst ea_ | (injection ea_ with ea_; subst ea_)); subst ec_; clear en_))
           have GB18 := Aside0.mk gb18
           have GG18 := Aside0.mk HG18
           clear gb18 gl18 HG18
           (first | simp only [add_plain] at hx146_0 | skip)
           obtain ⟨hx18_0, hf18_0⟩ := Kd.R_celln (⟨#[]⟩ : ByteArray) HO_5.out ((ji11) : Int) p18 q18
           replace p18 := eq_true p18
           replace q18 := eq_true q18
           have HP21 := Kd.R_putn HO_5.out ((ji11) : Int) ((rdOf ByteArray.empty x5_1 (ji11)) ++ (a0.extract (x6_1 : Int).toNat ((wrap64 (x6_1 + 1)) : Int).toNat))
           rw [← Ny147.out] at HP21
           have HQ21 := Aside0.mk HP21
           clear HP21
           refine start_ (n := 14) (S := fun w' => w'.cell? ⟨go18, ((ji11)).toNat, none⟩ = some (.string (rdOf ByteArray.empty x5_1 (ji11)))) (ds := [13]) #[false, false, false, false, false, false, false, false, false, false, false, false, false, false] kr_ rfl rfl (hx146_0) (fun hHeld => ?_); refine with_tabW tollref01_Split.tab7 tollref01_Split.bits7 (fun HT_ HW_ => ?_)
           generalize wr.drew = w19 at HO_5 HB GG18 HQ21 hf18_0 hx146_0 hx18_0 hHeld ⊢
           refine pure_ (i := 0) (N := some 22) (v := ?_) (a' := ?_) #[true, false, false, false, false, false, false, false, false, false, false, false, false, false] rfl rfl (any_of HT_.out kr_) (fun _ _ _ h => h) (Or.inl ⟨by rfl, ?_⟩) ?_ ?_
           rotate_left
           ·intro w'
            go_simp
            with_reducible rfl
           rotate_left
           ·simp only [Act.put, sx_, s0_, s1_, i64_w, i32_w]
            rfl
           refine pure_ (i := 1) (N := some 23) (v := ?_) (a' := ?_) #[true, true, false, false, false, false, false, false, false, false, false, false, false, false] rfl rfl (any_of HT_.out kr_) (fun _ _ _ h => h) (Or.inl ⟨by rfl, ?_⟩) ?_ ?_
           rotate_left
           ·intro w'
            go_simp
            with_reducible rfl
           rotate_left
           ·simp only [Act.put, sx_, s0_, s1_, i64_w, i32_w]
            rfl
           refine pure_ (i := 2) (N := some 24) (v := ?_) (a' := ?_) #[true, true, true, false, false, false, false, false, false, false, false, false, false, false] rfl rfl (any_of HT_.out kr_) (fun _ _ _ h => h) (Or.inl ⟨by rfl, ?_⟩) ?_ ?_
           rotate_left
           ·intro w'
            go_simp
            with_reducible rfl
           rotate_left
           ·simp only [Act.put, sx_, s0_, s1_, i64_w, i32_w]
            rfl
           refine pure_ (i := 3) (N := some 25) (v := ?_) (a' := ?_) #[true, true, true, true, false, false, false, false, false, false, false, false, false, false] rfl rfl (any_of HT_.out kr_) (fun _ _ _ h => h) (Or.inl ⟨by rfl, ?_⟩) ?_ ?_
           rotate_left
           ·intro w'
            go_simp
            with_reducible rfl
           rotate_left
           ·simp only [Act.put, sx_, s0_, s1_, i64_w, i32_w]
            rfl
           refine pure_ (i := 4) (N := some 26) (v := ?_) (a' := ?_) #[true, true, true, true, true, false, false, false, false, false, false, false, false, false] rfl rfl (any_of HT_.out kr_) (fun _ _ _ h => h) (Or.inl ⟨by rfl, ?_⟩) ?_ ?_
           rotate_left
           ·intro w'
            go_simp
            with_reducible rfl
           rotate_left
           ·simp only [Act.put, sx_, s0_, s1_, i64_w, i32_w]
            rfl
           refine pure_ (i := 6) (N := some 28) (v := ?_) (a' := ?_) #[true, true, true, true, true, false, true, false, false, false, false, false, false, false] rfl rfl (any_of HT_.out kr_) (fun _ _ _ h => h) (Or.inl ⟨by rfl, ?_⟩) ?_ ?_
           rotate_left
           ·intro w'
            go_simp
            with_reducible rfl
           rotate_left
           ·simp only [Act.put, sx_, s0_, s1_, i64_w, i32_w]
            rfl
           refine pure_ (i := 7) (N := some 29) (v := ?_) (a' := ?_) #[true, true, true, true, true, false, true, true, false, false, false, false, false, false] rfl rfl (any_of HT_.out kr_) (fun _ _ _ h => h) (Or.inl ⟨by rfl, ?_⟩) ?_ ?_
           rotate_left
           ·intro w'
            go_simp
            with_reducible rfl
           rotate_left
           ·simp only [Act.put, sx_, s0_, s1_, i64_w, i32_w]
            rfl
           refine pure_ (i := 8) (N := some 30) (v := ?_) (a' := ?_) #[true, true, true, true, true, false, true, true, true, false, false, false, false, false] rfl rfl (any_of HT_.out kr_) (fun _ _ _ h => h) (Or.inl ⟨by rfl, ?_⟩) ?_ ?_
           rotate_left
           ·intro w'
            go_simp
            with_reducible rfl
           rotate_left
           ·simp only [Act.put, sx_, s0_, s1_, i64_w, i32_w]
            rfl
           refine pure_ (i := 9) (N := some 31) (v := ?_) (a' := ?_) #[true, true, true, true, true, false, true, true, true, true, false, false, false, false] rfl rfl (any_of HT_.out kr_) (fun _ _ _ h => h) (Or.inl ⟨by rfl, ?_⟩) ?_ ?_
           rotate_left
           ·intro w'
            go_simp
            with_reducible rfl
           rotate_left
           ·simp only [Act.put, sx_, s0_, s1_, i64_w, i32_w]
            rfl
           refine pure_ (i := 10) (N := some 32) (v := ?_) (a' := ?_) #[true, true, true, true, true, false, true, true, true, true, true, false, false, false] rfl rfl (any_of HT_.out kr_) (fun _ _ _ h => h) (Or.inl ⟨by rfl, ?_⟩) ?_ ?_
           rotate_left
           ·intro w'
            go_simp
            with_reducible rfl
           rotate_left
           ·simp only [Act.put, sx_, s0_, s1_, i64_w, i32_w]
            rfl
           refine take_ (i := 5) (N := some 27) (v := ?_) (a' := ?_) #[true, true, true, true, true, true, true, true, true, true, true, false, false, false] rfl rfl (take_ofW HT_.out HW_.out kr_) (fun _ _ _ h => h) (Or.inl ⟨by rfl, ?_⟩) hHeld ?_ ?_
           rotate_left
           ·intro w' s0
            go_simp
            with_reducible rfl
           rotate_left
           ·simp only [Act.put, sx_, s0_, s1_, i64_w, i32_w]
            rfl
           refine pure_ (i := 11) (N := some 33) (v := ?_) (a' := ?_) #[true, true, true, true, true, true, true, true, true, true, true, true, false, false] rfl rfl (any_of HT_.out kr_) (fun _ _ _ h => h) (Or.inl ⟨by rfl, ?_⟩) ?_ ?_
           rotate_left
           ·intro w'
            go_simp
            with_reducible rfl
           rotate_left
           ·simp only [Act.put, sx_, s0_, s1_, i64_w, i32_w]
            rfl
           refine pure_ (i := 12) (N := some 34) (v := ?_) (a' := ?_) #[true, true, true, true, true, true, true, true, true, true, true, true, true, false] rfl rfl (any_of HT_.out kr_) (fun _ _ _ h => h) (Or.inl ⟨by rfl, ?_⟩) ?_ ?_
           rotate_left
           ·intro w'
            go_simp
            with_reducible rfl
           rotate_left
           ·simp only [Act.put, sx_, s0_, s1_, i64_w, i32_w]
            rfl
           refine last_ (i := 13) (N := none) #[true, true, true, true, true, true, true, true, true, true, true, true, true, true] rfl rfl (one_of HT_.out kr_) (by decide) (fun K hK => ?_)
           refine skip_ (w1 := ?_) (by rfl) rfl ?_ ?_
           rotate_left
           ·go_simp
            rfl
           refine hK.out _ _ ?_
           clear hK K
           refine done_ (done_of HT_.out kr_) ?_
           try go_wp2
           go_roundg k1
           case measure => have := HK1.out; omega
           case rel => exact ⟨(y147), (wrap64 (x6_1 + 1)), sd_, H', ⟨by have := HK1.out; omega⟩, ⟨by (with_reducible repeat (first | apply Kd.R_alloc | apply Kd.R_drewN | apply Kd.R_drew)); exact HQ21.out⟩, ⟨bel_ HB.out⟩⟩
          ·rw [if_neg c17] at H
           exact absurd H (by simp)
         ·rw [if_neg c16] at H
          exact absurd H (by simp)
        ·rw [if_neg c15] at H
         exact absurd H (by simp)
       ·rw [if_neg c13] at H
        exact absurd H (by simp)
      ·rw [if_neg c12] at H
       exact absurd H (by simp)
    ·rw [if_neg c6] at H
     exact absurd H (by simp)
   ·rw [if_neg c5] at H
    have c5b0 : decide (x6_1 < (a0.size : Int)) = false := decide_eq_false c5
    clear c5
    obtain rfl := Option.some.inj H
    go_wp2
    go_ret
    exact ⟨_, by first | rfl | (simp [errW_none, errW_some] <;> rfl) | (simp [*, errW_none, errW_some] <;> rfl), by (with_reducible repeat (first | apply Kd.R_alloc | apply Kd.R_drewN | apply Kd.R_drew)); exact HO_5.out, bel_ HB.out⟩

/-! ### tollref01_Label: function 82 -/
def tollref01_Label.l0 : Nat → ByteArray → Int → Option (Bool)
 | 0, _, _ => none
 | k + 1, x0, x3 => if x3 < (x0.size : Int) then (if 0 ≤ x3 then (if x3 = 0 then (if 97 ≤ (bt x0 x3) then (if (bt x0 x3) ≤ 122 then (tollref01_Label.l0 k x0 (wrap64 (x3 + 1))) else (if 48 ≤ (bt x0 x3) then (if (bt x0 x3) ≤ 57 then (tollref01_Label.l0 k x0 (wrap64 (x3 + 1))) else (if (bt x0 x3) = 45 then (some false) else (some false))) else (if (bt x0 x3) = 45 then (some false) else (some false)))) else (if 48 ≤ (bt x0 x3) then (if (bt x0 x3) ≤ 57 then (tollref01_Label.l0 k x0 (wrap64 (x3 + 1))) else (if (bt x0 x3) = 45 then (some false) else (some false))) else (if (bt x0 x3) = 45 then (some false) else (some false)))) else (if 97 ≤ (bt x0 x3) then (if (bt x0 x3) ≤ 122 then (tollref01_Label.l0 k x0 (wrap64 (x3 + 1))) else (if 48 ≤ (bt x0 x3) then (if (bt x0 x3) ≤ 57 then (tollref01_Label.l0 k x0 (wrap64 (x3 + 1))) else (if (bt x0 x3) = 45 then (if (x3 = (wrap64 ((x0.size : Int) - 1))) then (some false) else (tollref01_Label.l0 k x0 (wrap64 (x3 + 1)))) else (some false))) else (if (bt x0 x3) = 45 then (if (x3 = (wrap64 ((x0.size : Int) - 1))) then (some false) else (tollref01_Label.l0 k x0 (wrap64 (x3 + 1)))) else (some false)))) else (if 48 ≤ (bt x0 x3) then (if (bt x0 x3) ≤ 57 then (tollref01_Label.l0 k x0 (wrap64 (x3 + 1))) else (if (bt x0 x3) = 45 then (if (x3 = (wrap64 ((x0.size : Int) - 1))) then (some false) else (tollref01_Label.l0 k x0 (wrap64 (x3 + 1)))) else (some false))) else (if (bt x0 x3) = 45 then (if (x3 = (wrap64 ((x0.size : Int) - 1))) then (some false) else (tollref01_Label.l0 k x0 (wrap64 (x3 + 1)))) else (some false))))) else (none)) else (if 1 ≤ (x0.size : Int) then (some (decide ((x0.size : Int) ≤ 20))) else (some false))
def tollref01_Label.f (k : Nat) (a0 : ByteArray) : Option (Bool) := tollref01_Label.l0 k a0 0
theorem tollref01_Label.mono_l : ∀ k, (∀ y0 y1, LeO (tollref01_Label.l0 k y0 y1) (tollref01_Label.l0 (k + 1) y0 y1))
 | 0 => fun _ _ r h => by simp [tollref01_Label.l0] at h
 | k + 1 => by
  have ih0 := tollref01_Label.mono_l k
  ·intro y0 y1
   unfold tollref01_Label.l0
   repeat' first
   | (with_reducible exact ih0 _ _)
   | (with_reducible exact LeO.refl _)
   | (with_reducible exact LeO.none _)
   | (with_reducible refine LeO.ite ?_ ?_)
   | (with_reducible refine LeO.bind ?_ (fun _ => ?_))
   | exact ih0 _ _
   | exact LeO.none _
   | refine LeO.ite ?_ ?_
   | refine LeO.bind ?_ (fun _ => ?_)
theorem tollref01_Label.mono : ∀ a0 k, LeO (tollref01_Label.f k a0) (tollref01_Label.f (k + 1) a0) := by
 intro a0 k
 have ih0 := tollref01_Label.mono_l k
 unfold tollref01_Label.f
 repeat' first
   | (with_reducible exact ih0 _ _)
   | (with_reducible exact LeO.refl _)
   | (with_reducible exact LeO.none _)
   | (with_reducible refine LeO.ite ?_ ?_)
   | (with_reducible refine LeO.bind ?_ (fun _ => ?_))
   | exact ih0 _ _
   | exact LeO.none _
   | refine LeO.ite ?_ ?_
   | refine LeO.bind ?_ (fun _ => ?_)
set_option maxHeartbeats 8000000 in
set_option maxRecDepth 100000 in
theorem tollref01_Label.calls (k : Nat) (a0 : ByteArray) (r : Bool) (w : World) (h : tollref01_Label.f k a0 = some r) :
  Calls Tryz.prog 82 #[.string a0] w fun e w' => e = .returned (.bool r) ∧ Drawn0 w w' := by
 have H : (tollref01_Label.l0 k a0 0) = some r := h
 clear h
 have H' := Aside0.mk H
 clear H
 go_enter Tryz.func82, Tryz.ntmps82
 go_wp2
 go_loopg [3] k (fun kq v3 w' => ∃ (x3_1 : Int), v3 = .int .i64 x3_1 ∧ Aside0 (tollref01_Label.l0 kq a0 x3_1 = some r) ∧ Aside0 (kq ≤ k) ∧ Drawn0 w w')
 case atStart => exact ⟨(0), sd_, H', ⟨Nat.le_refl _⟩, by repeat (first | exact Drawn0.refl _ | apply Drawn0.step)⟩
 case round =>
  clear H'
  obtain ⟨x3_1, rfl, HA, HK1, ⟨m1, rfl⟩⟩ := hrel
  cases gk with
  | zero => exact absurd HA.out (by simp [tollref01_Label.l0])
  | succ k1 =>
   have H := HA.out
   clear HA
   simp only [tollref01_Label.l0] at H
   by_cases c2 : x3_1 < (a0.size : Int)
   ·rw [if_pos c2] at H
    have c2b0 : decide (x3_1 < (a0.size : Int)) = true := decide_eq_true c2
    clear c2
    by_cases c3 : 0 ≤ x3_1
    ·rw [if_pos c3] at H
     have c3b0 : decide (0 ≤ x3_1) = true := decide_eq_true c3
     clear c3
     by_cases c5 : x3_1 = 0
     ·rw [if_pos c5] at H
      have c5b0 : (x3_1 == 0) = true := beq_iff_eq.mpr c5
      have c5b1 : (x3_1 != 0) = false := bne_eq_false_iff_eq.mpr c5
      clear c5
      by_cases c6 : 97 ≤ (bt a0 x3_1)
      ·rw [if_pos c6] at H
       have c6b0 : decide (97 ≤ (bt a0 x3_1)) = true := decide_eq_true c6
       clear c6
       by_cases c7 : (bt a0 x3_1) ≤ 122
       ·rw [if_pos c7] at H
        have c7b0 : decide ((bt a0 x3_1) ≤ 122) = true := decide_eq_true c7
        clear c7
        have H' := Aside0.mk H
        clear H
        have p4 : 0 ≤ (x3_1 : Int) := of_decide_eq_true as_
        have q4 : x3_1 < (a0.size : Int) := of_decide_eq_true as_
        have hx4 := bt_at a0 x3_1
        replace p4 := eq_true p4
        replace q4 := eq_true q4
        go_wp2
        go_roundg k1
        case measure => have := HK1.out; omega
        case rel => exact ⟨(wrap64 (x3_1 + 1)), sd_, H', ⟨by have := HK1.out; omega⟩, by repeat (first | exact Drawn0.refl _ | apply Drawn0.step)⟩
       ·rw [if_neg c7] at H
        have c7b0 : decide ((bt a0 x3_1) ≤ 122) = false := decide_eq_false c7
        clear c7
        by_cases c8 : 48 ≤ (bt a0 x3_1)
        ·rw [if_pos c8] at H
         have c8b0 : decide (48 ≤ (bt a0 x3_1)) = true := decide_eq_true c8
         clear c8
         by_cases c9 : (bt a0 x3_1) ≤ 57
         ·rw [if_pos c9] at H
          have c9b0 : decide ((bt a0 x3_1) ≤ 57) = true := decide_eq_true c9
          clear c9
          have H' := Aside0.mk H
          clear H
          have p4 : 0 ≤ (x3_1 : Int) := of_decide_eq_true as_
          have q4 : x3_1 < (a0.size : Int) := of_decide_eq_true as_
          have hx4 := bt_at a0 x3_1
          replace p4 := eq_true p4
          replace q4 := eq_true q4
          go_wp2
          go_roundg k1
          case measure => have := HK1.out; omega
          case rel => exact ⟨(wrap64 (x3_1 + 1)), sd_, H', ⟨by have := HK1.out; omega⟩, by repeat (first | exact Drawn0.refl _ | apply Drawn0.step)⟩
         ·rw [if_neg c9] at H
          have c9b0 : decide ((bt a0 x3_1) ≤ 57) = false := decide_eq_false c9
          clear c9
          by_cases c10 : (bt a0 x3_1) = 45
          ·rw [if_pos c10] at H
           have c10b0 : ((bt a0 x3_1) == 45) = true := beq_iff_eq.mpr c10
           have c10b1 : ((bt a0 x3_1) != 45) = false := bne_eq_false_iff_eq.mpr c10
           clear c10
           obtain rfl := Option.some.inj H
           have p4 : 0 ≤ (x3_1 : Int) := of_decide_eq_true as_
           have q4 : x3_1 < (a0.size : Int) := of_decide_eq_true as_
           have hx4 := bt_at a0 x3_1
           replace p4 := eq_true p4
           replace q4 := eq_true q4
           go_wp2
           go_ret
           exact ⟨by first | rfl | (simp; done) | (simp [*]; done) | (simp [bne_nil_isEmpty, beq_nil_isEmpty]; done) | (simp [*, bne_nil_isEmpty, beq_nil_isEmpty]; done), by repeat (first | exact Drawn0.refl _ | apply Drawn0.step)⟩
          ·rw [if_neg c10] at H
           have c10b0 : ((bt a0 x3_1) == 45) = false := beq_eq_false_iff_ne.mpr c10
           have c10b1 : ((bt a0 x3_1) != 45) = true := bne_iff_ne.mpr c10
           obtain rfl := Option.some.inj H
           have p4 : 0 ≤ (x3_1 : Int) := of_decide_eq_true as_
           have q4 : x3_1 < (a0.size : Int) := of_decide_eq_true as_
           have hx4 := bt_at a0 x3_1
           replace p4 := eq_true p4
           replace q4 := eq_true q4
           go_wp2
           go_ret
           exact ⟨by first | rfl | (simp; done) | (simp [*]; done) | (simp [bne_nil_isEmpty, beq_nil_isEmpty]; done) | (simp [*, bne_nil_isEmpty, beq_nil_isEmpty]; done), by repeat (first | exact Drawn0.refl _ | apply Drawn0.step)⟩
        ·rw [if_neg c8] at H
         have c8b0 : decide (48 ≤ (bt a0 x3_1)) = false := decide_eq_false c8
         clear c8
         by_cases c11 : (bt a0 x3_1) = 45
         ·rw [if_pos c11] at H
          have c11b0 : ((bt a0 x3_1) == 45) = true := beq_iff_eq.mpr c11
          have c11b1 : ((bt a0 x3_1) != 45) = false := bne_eq_false_iff_eq.mpr c11
          clear c11
          obtain rfl := Option.some.inj H
          have p4 : 0 ≤ (x3_1 : Int) := of_decide_eq_true as_
          have q4 : x3_1 < (a0.size : Int) := of_decide_eq_true as_
          have hx4 := bt_at a0 x3_1
          replace p4 := eq_true p4
          replace q4 := eq_true q4
          go_wp2
          go_ret
          exact ⟨by first | rfl | (simp; done) | (simp [*]; done) | (simp [bne_nil_isEmpty, beq_nil_isEmpty]; done) | (simp [*, bne_nil_isEmpty, beq_nil_isEmpty]; done), by repeat (first | exact Drawn0.refl _ | apply Drawn0.step)⟩
         ·rw [if_neg c11] at H
          have c11b0 : ((bt a0 x3_1) == 45) = false := beq_eq_false_iff_ne.mpr c11
          have c11b1 : ((bt a0 x3_1) != 45) = true := bne_iff_ne.mpr c11
          obtain rfl := Option.some.inj H
          have p4 : 0 ≤ (x3_1 : Int) := of_decide_eq_true as_
          have q4 : x3_1 < (a0.size : Int) := of_decide_eq_true as_
          have hx4 := bt_at a0 x3_1
          replace p4 := eq_true p4
          replace q4 := eq_true q4
          go_wp2
          go_ret
          exact ⟨by first | rfl | (simp; done) | (simp [*]; done) | (simp [bne_nil_isEmpty, beq_nil_isEmpty]; done) | (simp [*, bne_nil_isEmpty, beq_nil_isEmpty]; done), by repeat (first | exact Drawn0.refl _ | apply Drawn0.step)⟩
      ·rw [if_neg c6] at H
       have c6b0 : decide (97 ≤ (bt a0 x3_1)) = false := decide_eq_false c6
       clear c6
       by_cases c12 : 48 ≤ (bt a0 x3_1)
       ·rw [if_pos c12] at H
        have c12b0 : decide (48 ≤ (bt a0 x3_1)) = true := decide_eq_true c12
        clear c12
        by_cases c13 : (bt a0 x3_1) ≤ 57
        ·rw [if_pos c13] at H
         have c13b0 : decide ((bt a0 x3_1) ≤ 57) = true := decide_eq_true c13
         clear c13
         have H' := Aside0.mk H
         clear H
         have p4 : 0 ≤ (x3_1 : Int) := of_decide_eq_true as_
         have q4 : x3_1 < (a0.size : Int) := of_decide_eq_true as_
         have hx4 := bt_at a0 x3_1
         replace p4 := eq_true p4
         replace q4 := eq_true q4
         go_wp2
         go_roundg k1
         case measure => have := HK1.out; omega
         case rel => exact ⟨(wrap64 (x3_1 + 1)), sd_, H', ⟨by have := HK1.out; omega⟩, by repeat (first | exact Drawn0.refl _ | apply Drawn0.step)⟩
        ·rw [if_neg c13] at H
         have c13b0 : decide ((bt a0 x3_1) ≤ 57) = false := decide_eq_false c13
         clear c13
         by_cases c14 : (bt a0 x3_1) = 45
         ·rw [if_pos c14] at H
          have c14b0 : ((bt a0 x3_1) == 45) = true := beq_iff_eq.mpr c14
          have c14b1 : ((bt a0 x3_1) != 45) = false := bne_eq_false_iff_eq.mpr c14
          clear c14
          obtain rfl := Option.some.inj H
          have p4 : 0 ≤ (x3_1 : Int) := of_decide_eq_true as_
          have q4 : x3_1 < (a0.size : Int) := of_decide_eq_true as_
          have hx4 := bt_at a0 x3_1
          replace p4 := eq_true p4
          replace q4 := eq_true q4
          go_wp2
          go_ret
          exact ⟨by first | rfl | (simp; done) | (simp [*]; done) | (simp [bne_nil_isEmpty, beq_nil_isEmpty]; done) | (simp [*, bne_nil_isEmpty, beq_nil_isEmpty]; done), by repeat (first | exact Drawn0.refl _ | apply Drawn0.step)⟩
         ·rw [if_neg c14] at H
          have c14b0 : ((bt a0 x3_1) == 45) = false := beq_eq_false_iff_ne.mpr c14
          have c14b1 : ((bt a0 x3_1) != 45) = true := bne_iff_ne.mpr c14
          obtain rfl := Option.some.inj H
          have p4 : 0 ≤ (x3_1 : Int) := of_decide_eq_true as_
          have q4 : x3_1 < (a0.size : Int) := of_decide_eq_true as_
          have hx4 := bt_at a0 x3_1
          replace p4 := eq_true p4
          replace q4 := eq_true q4
          go_wp2
          go_ret
          exact ⟨by first | rfl | (simp; done) | (simp [*]; done) | (simp [bne_nil_isEmpty, beq_nil_isEmpty]; done) | (simp [*, bne_nil_isEmpty, beq_nil_isEmpty]; done), by repeat (first | exact Drawn0.refl _ | apply Drawn0.step)⟩
       ·rw [if_neg c12] at H
        have c12b0 : decide (48 ≤ (bt a0 x3_1)) = false := decide_eq_false c12
        clear c12
        by_cases c15 : (bt a0 x3_1) = 45
        ·rw [if_pos c15] at H
         have c15b0 : ((bt a0 x3_1) == 45) = true := beq_iff_eq.mpr c15
         have c15b1 : ((bt a0 x3_1) != 45) = false := bne_eq_false_iff_eq.mpr c15
         clear c15
         obtain rfl := Option.some.inj H
         have p4 : 0 ≤ (x3_1 : Int) := of_decide_eq_true as_
         have q4 : x3_1 < (a0.size : Int) := of_decide_eq_true as_
         have hx4 := bt_at a0 x3_1
         replace p4 := eq_true p4
         replace q4 := eq_true q4
         go_wp2
         go_ret
         exact ⟨by first | rfl | (simp; done) | (simp [*]; done) | (simp [bne_nil_isEmpty, beq_nil_isEmpty]; done) | (simp [*, bne_nil_isEmpty, beq_nil_isEmpty]; done), by repeat (first | exact Drawn0.refl _ | apply Drawn0.step)⟩
        ·rw [if_neg c15] at H
         have c15b0 : ((bt a0 x3_1) == 45) = false := beq_eq_false_iff_ne.mpr c15
         have c15b1 : ((bt a0 x3_1) != 45) = true := bne_iff_ne.mpr c15
         obtain rfl := Option.some.inj H
         have p4 : 0 ≤ (x3_1 : Int) := of_decide_eq_true as_
         have q4 : x3_1 < (a0.size : Int) := of_decide_eq_true as_
         have hx4 := bt_at a0 x3_1
         replace p4 := eq_true p4
         replace q4 := eq_true q4
         go_wp2
         go_ret
         exact ⟨by first | rfl | (simp; done) | (simp [*]; done) | (simp [bne_nil_isEmpty, beq_nil_isEmpty]; done) | (simp [*, bne_nil_isEmpty, beq_nil_isEmpty]; done), by repeat (first | exact Drawn0.refl _ | apply Drawn0.step)⟩
     ·rw [if_neg c5] at H
      have c5b0 : (x3_1 == 0) = false := beq_eq_false_iff_ne.mpr c5
      have c5b1 : (x3_1 != 0) = true := bne_iff_ne.mpr c5
      by_cases c16 : 97 ≤ (bt a0 x3_1)
      ·rw [if_pos c16] at H
       have c16b0 : decide (97 ≤ (bt a0 x3_1)) = true := decide_eq_true c16
       clear c16
       by_cases c17 : (bt a0 x3_1) ≤ 122
       ·rw [if_pos c17] at H
        have c17b0 : decide ((bt a0 x3_1) ≤ 122) = true := decide_eq_true c17
        clear c17
        have H' := Aside0.mk H
        clear H
        have p4 : 0 ≤ (x3_1 : Int) := of_decide_eq_true as_
        have q4 : x3_1 < (a0.size : Int) := of_decide_eq_true as_
        have hx4 := bt_at a0 x3_1
        replace p4 := eq_true p4
        replace q4 := eq_true q4
        go_wp2
        go_roundg k1
        case measure => have := HK1.out; omega
        case rel => exact ⟨(wrap64 (x3_1 + 1)), sd_, H', ⟨by have := HK1.out; omega⟩, by repeat (first | exact Drawn0.refl _ | apply Drawn0.step)⟩
       ·rw [if_neg c17] at H
        have c17b0 : decide ((bt a0 x3_1) ≤ 122) = false := decide_eq_false c17
        clear c17
        by_cases c18 : 48 ≤ (bt a0 x3_1)
        ·rw [if_pos c18] at H
         have c18b0 : decide (48 ≤ (bt a0 x3_1)) = true := decide_eq_true c18
         clear c18
         by_cases c19 : (bt a0 x3_1) ≤ 57
         ·rw [if_pos c19] at H
          have c19b0 : decide ((bt a0 x3_1) ≤ 57) = true := decide_eq_true c19
          clear c19
          have H' := Aside0.mk H
          clear H
          have p4 : 0 ≤ (x3_1 : Int) := of_decide_eq_true as_
          have q4 : x3_1 < (a0.size : Int) := of_decide_eq_true as_
          have hx4 := bt_at a0 x3_1
          replace p4 := eq_true p4
          replace q4 := eq_true q4
          go_wp2
          go_roundg k1
          case measure => have := HK1.out; omega
          case rel => exact ⟨(wrap64 (x3_1 + 1)), sd_, H', ⟨by have := HK1.out; omega⟩, by repeat (first | exact Drawn0.refl _ | apply Drawn0.step)⟩
         ·rw [if_neg c19] at H
          have c19b0 : decide ((bt a0 x3_1) ≤ 57) = false := decide_eq_false c19
          clear c19
          by_cases c20 : (bt a0 x3_1) = 45
          ·rw [if_pos c20] at H
           have c20b0 : ((bt a0 x3_1) == 45) = true := beq_iff_eq.mpr c20
           have c20b1 : ((bt a0 x3_1) != 45) = false := bne_eq_false_iff_eq.mpr c20
           clear c20
           by_cases c21 : (x3_1 = (wrap64 ((a0.size : Int) - 1)))
           ·rw [if_pos c21] at H
            have c21b0 : (x3_1 == (wrap64 ((a0.size : Int) - 1))) = true := beq_iff_eq.mpr c21
            have c21b1 : (x3_1 != (wrap64 ((a0.size : Int) - 1))) = false := bne_eq_false_iff_eq.mpr c21
            clear c21
            obtain rfl := Option.some.inj H
            have p4 : 0 ≤ (x3_1 : Int) := of_decide_eq_true as_
            have q4 : x3_1 < (a0.size : Int) := of_decide_eq_true as_
            have hx4 := bt_at a0 x3_1
            replace p4 := eq_true p4
            replace q4 := eq_true q4
            go_wp2
            go_ret
            exact ⟨by first | rfl | (simp; done) | (simp [*]; done) | (simp [bne_nil_isEmpty, beq_nil_isEmpty]; done) | (simp [*, bne_nil_isEmpty, beq_nil_isEmpty]; done), by repeat (first | exact Drawn0.refl _ | apply Drawn0.step)⟩
           ·rw [if_neg c21] at H
            have c21b0 : (x3_1 == (wrap64 ((a0.size : Int) - 1))) = false := beq_eq_false_iff_ne.mpr c21
            have c21b1 : (x3_1 != (wrap64 ((a0.size : Int) - 1))) = true := bne_iff_ne.mpr c21
            have H' := Aside0.mk H
            clear H
            have p4 : 0 ≤ (x3_1 : Int) := of_decide_eq_true as_
            have q4 : x3_1 < (a0.size : Int) := of_decide_eq_true as_
            have hx4 := bt_at a0 x3_1
            replace p4 := eq_true p4
            replace q4 := eq_true q4
            go_wp2
            go_roundg k1
            case measure => have := HK1.out; omega
            case rel => exact ⟨(wrap64 (x3_1 + 1)), sd_, H', ⟨by have := HK1.out; omega⟩, by repeat (first | exact Drawn0.refl _ | apply Drawn0.step)⟩
          ·rw [if_neg c20] at H
           have c20b0 : ((bt a0 x3_1) == 45) = false := beq_eq_false_iff_ne.mpr c20
           have c20b1 : ((bt a0 x3_1) != 45) = true := bne_iff_ne.mpr c20
           obtain rfl := Option.some.inj H
           have p4 : 0 ≤ (x3_1 : Int) := of_decide_eq_true as_
           have q4 : x3_1 < (a0.size : Int) := of_decide_eq_true as_
           have hx4 := bt_at a0 x3_1
           replace p4 := eq_true p4
           replace q4 := eq_true q4
           go_wp2
           go_ret
           exact ⟨by first | rfl | (simp; done) | (simp [*]; done) | (simp [bne_nil_isEmpty, beq_nil_isEmpty]; done) | (simp [*, bne_nil_isEmpty, beq_nil_isEmpty]; done), by repeat (first | exact Drawn0.refl _ | apply Drawn0.step)⟩
        ·rw [if_neg c18] at H
         have c18b0 : decide (48 ≤ (bt a0 x3_1)) = false := decide_eq_false c18
         clear c18
         by_cases c22 : (bt a0 x3_1) = 45
         ·rw [if_pos c22] at H
          have c22b0 : ((bt a0 x3_1) == 45) = true := beq_iff_eq.mpr c22
          have c22b1 : ((bt a0 x3_1) != 45) = false := bne_eq_false_iff_eq.mpr c22
          clear c22
          by_cases c23 : (x3_1 = (wrap64 ((a0.size : Int) - 1)))
          ·rw [if_pos c23] at H
           have c23b0 : (x3_1 == (wrap64 ((a0.size : Int) - 1))) = true := beq_iff_eq.mpr c23
           have c23b1 : (x3_1 != (wrap64 ((a0.size : Int) - 1))) = false := bne_eq_false_iff_eq.mpr c23
           clear c23
           obtain rfl := Option.some.inj H
           have p4 : 0 ≤ (x3_1 : Int) := of_decide_eq_true as_
           have q4 : x3_1 < (a0.size : Int) := of_decide_eq_true as_
           have hx4 := bt_at a0 x3_1
           replace p4 := eq_true p4
           replace q4 := eq_true q4
           go_wp2
           go_ret
           exact ⟨by first | rfl | (simp; done) | (simp [*]; done) | (simp [bne_nil_isEmpty, beq_nil_isEmpty]; done) | (simp [*, bne_nil_isEmpty, beq_nil_isEmpty]; done), by repeat (first | exact Drawn0.refl _ | apply Drawn0.step)⟩
          ·rw [if_neg c23] at H
           have c23b0 : (x3_1 == (wrap64 ((a0.size : Int) - 1))) = false := beq_eq_false_iff_ne.mpr c23
           have c23b1 : (x3_1 != (wrap64 ((a0.size : Int) - 1))) = true := bne_iff_ne.mpr c23
           have H' := Aside0.mk H
           clear H
           have p4 : 0 ≤ (x3_1 : Int) := of_decide_eq_true as_
           have q4 : x3_1 < (a0.size : Int) := of_decide_eq_true as_
           have hx4 := bt_at a0 x3_1
           replace p4 := eq_true p4
           replace q4 := eq_true q4
           go_wp2
           go_roundg k1
           case measure => have := HK1.out; omega
           case rel => exact ⟨(wrap64 (x3_1 + 1)), sd_, H', ⟨by have := HK1.out; omega⟩, by repeat (first | exact Drawn0.refl _ | apply Drawn0.step)⟩
         ·rw [if_neg c22] at H
          have c22b0 : ((bt a0 x3_1) == 45) = false := beq_eq_false_iff_ne.mpr c22
          have c22b1 : ((bt a0 x3_1) != 45) = true := bne_iff_ne.mpr c22
          obtain rfl := Option.some.inj H
          have p4 : 0 ≤ (x3_1 : Int) := of_decide_eq_true as_
          have q4 : x3_1 < (a0.size : Int) := of_decide_eq_true as_
          have hx4 := bt_at a0 x3_1
          replace p4 := eq_true p4
          replace q4 := eq_true q4
          go_wp2
          go_ret
          exact ⟨by first | rfl | (simp; done) | (simp [*]; done) | (simp [bne_nil_isEmpty, beq_nil_isEmpty]; done) | (simp [*, bne_nil_isEmpty, beq_nil_isEmpty]; done), by repeat (first | exact Drawn0.refl _ | apply Drawn0.step)⟩
      ·rw [if_neg c16] at H
       have c16b0 : decide (97 ≤ (bt a0 x3_1)) = false := decide_eq_false c16
       clear c16
       by_cases c24 : 48 ≤ (bt a0 x3_1)
       ·rw [if_pos c24] at H
        have c24b0 : decide (48 ≤ (bt a0 x3_1)) = true := decide_eq_true c24
        clear c24
        by_cases c25 : (bt a0 x3_1) ≤ 57
        ·rw [if_pos c25] at H
         have c25b0 : decide ((bt a0 x3_1) ≤ 57) = true := decide_eq_true c25
         clear c25
         have H' := Aside0.mk H
         clear H
         have p4 : 0 ≤ (x3_1 : Int) := of_decide_eq_true as_
         have q4 : x3_1 < (a0.size : Int) := of_decide_eq_true as_
         have hx4 := bt_at a0 x3_1
         replace p4 := eq_true p4
         replace q4 := eq_true q4
         go_wp2
         go_roundg k1
         case measure => have := HK1.out; omega
         case rel => exact ⟨(wrap64 (x3_1 + 1)), sd_, H', ⟨by have := HK1.out; omega⟩, by repeat (first | exact Drawn0.refl _ | apply Drawn0.step)⟩
        ·rw [if_neg c25] at H
         have c25b0 : decide ((bt a0 x3_1) ≤ 57) = false := decide_eq_false c25
         clear c25
         by_cases c26 : (bt a0 x3_1) = 45
         ·rw [if_pos c26] at H
          have c26b0 : ((bt a0 x3_1) == 45) = true := beq_iff_eq.mpr c26
          have c26b1 : ((bt a0 x3_1) != 45) = false := bne_eq_false_iff_eq.mpr c26
          clear c26
          by_cases c27 : (x3_1 = (wrap64 ((a0.size : Int) - 1)))
          ·rw [if_pos c27] at H
           have c27b0 : (x3_1 == (wrap64 ((a0.size : Int) - 1))) = true := beq_iff_eq.mpr c27
           have c27b1 : (x3_1 != (wrap64 ((a0.size : Int) - 1))) = false := bne_eq_false_iff_eq.mpr c27
           clear c27
           obtain rfl := Option.some.inj H
           have p4 : 0 ≤ (x3_1 : Int) := of_decide_eq_true as_
           have q4 : x3_1 < (a0.size : Int) := of_decide_eq_true as_
           have hx4 := bt_at a0 x3_1
           replace p4 := eq_true p4
           replace q4 := eq_true q4
           go_wp2
           go_ret
           exact ⟨by first | rfl | (simp; done) | (simp [*]; done) | (simp [bne_nil_isEmpty, beq_nil_isEmpty]; done) | (simp [*, bne_nil_isEmpty, beq_nil_isEmpty]; done), by repeat (first | exact Drawn0.refl _ | apply Drawn0.step)⟩
          ·rw [if_neg c27] at H
           have c27b0 : (x3_1 == (wrap64 ((a0.size : Int) - 1))) = false := beq_eq_false_iff_ne.mpr c27
           have c27b1 : (x3_1 != (wrap64 ((a0.size : Int) - 1))) = true := bne_iff_ne.mpr c27
           have H' := Aside0.mk H
           clear H
           have p4 : 0 ≤ (x3_1 : Int) := of_decide_eq_true as_
           have q4 : x3_1 < (a0.size : Int) := of_decide_eq_true as_
           have hx4 := bt_at a0 x3_1
           replace p4 := eq_true p4
           replace q4 := eq_true q4
           go_wp2
           go_roundg k1
           case measure => have := HK1.out; omega
           case rel => exact ⟨(wrap64 (x3_1 + 1)), sd_, H', ⟨by have := HK1.out; omega⟩, by repeat (first | exact Drawn0.refl _ | apply Drawn0.step)⟩
         ·rw [if_neg c26] at H
          have c26b0 : ((bt a0 x3_1) == 45) = false := beq_eq_false_iff_ne.mpr c26
          have c26b1 : ((bt a0 x3_1) != 45) = true := bne_iff_ne.mpr c26
          obtain rfl := Option.some.inj H
          have p4 : 0 ≤ (x3_1 : Int) := of_decide_eq_true as_
          have q4 : x3_1 < (a0.size : Int) := of_decide_eq_true as_
          have hx4 := bt_at a0 x3_1
          replace p4 := eq_true p4
          replace q4 := eq_true q4
          go_wp2
          go_ret
          exact ⟨by first | rfl | (simp; done) | (simp [*]; done) | (simp [bne_nil_isEmpty, beq_nil_isEmpty]; done) | (simp [*, bne_nil_isEmpty, beq_nil_isEmpty]; done), by repeat (first | exact Drawn0.refl _ | apply Drawn0.step)⟩
       ·rw [if_neg c24] at H
        have c24b0 : decide (48 ≤ (bt a0 x3_1)) = false := decide_eq_false c24
        clear c24
        by_cases c28 : (bt a0 x3_1) = 45
        ·rw [if_pos c28] at H
         have c28b0 : ((bt a0 x3_1) == 45) = true := beq_iff_eq.mpr c28
         have c28b1 : ((bt a0 x3_1) != 45) = false := bne_eq_false_iff_eq.mpr c28
         clear c28
         by_cases c29 : (x3_1 = (wrap64 ((a0.size : Int) - 1)))
         ·rw [if_pos c29] at H
          have c29b0 : (x3_1 == (wrap64 ((a0.size : Int) - 1))) = true := beq_iff_eq.mpr c29
          have c29b1 : (x3_1 != (wrap64 ((a0.size : Int) - 1))) = false := bne_eq_false_iff_eq.mpr c29
          clear c29
          obtain rfl := Option.some.inj H
          have p4 : 0 ≤ (x3_1 : Int) := of_decide_eq_true as_
          have q4 : x3_1 < (a0.size : Int) := of_decide_eq_true as_
          have hx4 := bt_at a0 x3_1
          replace p4 := eq_true p4
          replace q4 := eq_true q4
          go_wp2
          go_ret
          exact ⟨by first | rfl | (simp; done) | (simp [*]; done) | (simp [bne_nil_isEmpty, beq_nil_isEmpty]; done) | (simp [*, bne_nil_isEmpty, beq_nil_isEmpty]; done), by repeat (first | exact Drawn0.refl _ | apply Drawn0.step)⟩
         ·rw [if_neg c29] at H
          have c29b0 : (x3_1 == (wrap64 ((a0.size : Int) - 1))) = false := beq_eq_false_iff_ne.mpr c29
          have c29b1 : (x3_1 != (wrap64 ((a0.size : Int) - 1))) = true := bne_iff_ne.mpr c29
          have H' := Aside0.mk H
          clear H
          have p4 : 0 ≤ (x3_1 : Int) := of_decide_eq_true as_
          have q4 : x3_1 < (a0.size : Int) := of_decide_eq_true as_
          have hx4 := bt_at a0 x3_1
          replace p4 := eq_true p4
          replace q4 := eq_true q4
          go_wp2
          go_roundg k1
          case measure => have := HK1.out; omega
          case rel => exact ⟨(wrap64 (x3_1 + 1)), sd_, H', ⟨by have := HK1.out; omega⟩, by repeat (first | exact Drawn0.refl _ | apply Drawn0.step)⟩
        ·rw [if_neg c28] at H
         have c28b0 : ((bt a0 x3_1) == 45) = false := beq_eq_false_iff_ne.mpr c28
         have c28b1 : ((bt a0 x3_1) != 45) = true := bne_iff_ne.mpr c28
         obtain rfl := Option.some.inj H
         have p4 : 0 ≤ (x3_1 : Int) := of_decide_eq_true as_
         have q4 : x3_1 < (a0.size : Int) := of_decide_eq_true as_
         have hx4 := bt_at a0 x3_1
         replace p4 := eq_true p4
         replace q4 := eq_true q4
         go_wp2
         go_ret
         exact ⟨by first | rfl | (simp; done) | (simp [*]; done) | (simp [bne_nil_isEmpty, beq_nil_isEmpty]; done) | (simp [*, bne_nil_isEmpty, beq_nil_isEmpty]; done), by repeat (first | exact Drawn0.refl _ | apply Drawn0.step)⟩
    ·rw [if_neg c3] at H
     exact absurd H (by simp)
   ·rw [if_neg c2] at H
    have c2b0 : decide (x3_1 < (a0.size : Int)) = false := decide_eq_false c2
    clear c2
    by_cases c30 : 1 ≤ (a0.size : Int)
    ·rw [if_pos c30] at H
     have c30b0 : decide (1 ≤ (a0.size : Int)) = true := decide_eq_true c30
     have c30b1 : decide (1 ≤ a0.size) = true := decide_eq_true (by omega)
     clear c30
     obtain rfl := Option.some.inj H
     go_wp2
     go_ret
     exact ⟨by first | rfl | (simp; done) | (simp [*]; done) | (simp [bne_nil_isEmpty, beq_nil_isEmpty]; done) | (simp [*, bne_nil_isEmpty, beq_nil_isEmpty]; done), by repeat (first | exact Drawn0.refl _ | apply Drawn0.step)⟩
    ·rw [if_neg c30] at H
     have c30b0 : decide (1 ≤ (a0.size : Int)) = false := decide_eq_false c30
     have c30b1 : decide (1 ≤ a0.size) = false := decide_eq_false (by omega)
     clear c30
     obtain rfl := Option.some.inj H
     go_wp2
     go_ret
     exact ⟨by first | rfl | (simp; done) | (simp [*]; done) | (simp [bne_nil_isEmpty, beq_nil_isEmpty]; done) | (simp [*, bne_nil_isEmpty, beq_nil_isEmpty]; done), by repeat (first | exact Drawn0.refl _ | apply Drawn0.step)⟩

/-! ### tollref01_Name: function 56 -/
def tollref01_Name.l0 : Nat → List ByteArray → Int → Option (Bool)
 | 0, _, _ => none
 | k + 1, x3, x4 => if x4 < (x3.length : Int) then (if 0 ≤ x4 then ((tollref01_Label.f k (rdOf ByteArray.empty x3 x4)).bind fun t152 => (if t152 = true then (tollref01_Name.l0 k x3 (wrap64 (x4 + 1))) else (some false))) else (none)) else (some true)
def tollref01_Name.f (k : Nat) (a0 : ByteArray) : Option (Bool) := if (a0.size : Int) > 60 then (some false) else ((tollref01_Split.f k a0 46).bind fun t148 => (tollref01_Name.l0 k t148 0))
theorem tollref01_Name.mono_l : ∀ k, (∀ y0 y1, LeO (tollref01_Name.l0 k y0 y1) (tollref01_Name.l0 (k + 1) y0 y1))
 | 0 => fun _ _ r h => by simp [tollref01_Name.l0] at h
 | k + 1 => by
  have ih0 := tollref01_Name.mono_l k
  ·intro y0 y1
   unfold tollref01_Name.l0
   repeat' first
   | (with_reducible exact ih0 _ _)
   | (with_reducible exact tollref01_Label.mono _ _)
   | (with_reducible exact tollref01_Split.mono _ _ _)
   | (with_reducible exact LeO.refl _)
   | (with_reducible exact LeO.none _)
   | (with_reducible refine LeO.ite ?_ ?_)
   | (with_reducible refine LeO.bind ?_ (fun _ => ?_))
   | exact ih0 _ _
   | exact tollref01_Label.mono _ _
   | exact tollref01_Split.mono _ _ _
   | exact LeO.none _
   | refine LeO.ite ?_ ?_
   | refine LeO.bind ?_ (fun _ => ?_)
theorem tollref01_Name.mono : ∀ a0 k, LeO (tollref01_Name.f k a0) (tollref01_Name.f (k + 1) a0) := by
 intro a0 k
 have ih0 := tollref01_Name.mono_l k
 unfold tollref01_Name.f
 repeat' first
   | (with_reducible exact ih0 _ _)
   | (with_reducible exact tollref01_Label.mono _ _)
   | (with_reducible exact tollref01_Split.mono _ _ _)
   | (with_reducible exact LeO.refl _)
   | (with_reducible exact LeO.none _)
   | (with_reducible refine LeO.ite ?_ ?_)
   | (with_reducible refine LeO.bind ?_ (fun _ => ?_))
   | exact ih0 _ _
   | exact tollref01_Label.mono _ _
   | exact tollref01_Split.mono _ _ _
   | exact LeO.none _
   | refine LeO.ite ?_ ?_
   | refine LeO.bind ?_ (fun _ => ?_)
set_option maxHeartbeats 8000000 in
set_option maxRecDepth 100000 in
theorem tollref01_Name.calls (k : Nat) (a0 : ByteArray) (r : Bool) (w : World) (h : tollref01_Name.f k a0 = some r) :
  Calls Tryz.prog 56 #[.string a0] w fun e w' => e = .returned (.bool r) ∧ Below w.heap.size w w' := by
 have HB := am_ (Below.refl w.heap.size w)
 have H : (if (a0.size : Int) > 60 then (some false) else ((tollref01_Split.f k a0 46).bind fun t148 => (tollref01_Name.l0 k t148 0))) = some r := h
 clear h
 by_cases c2 : (a0.size : Int) > 60
 ·rw [if_pos c2] at H
  have c2b0 : decide (60 < (a0.size : Int)) = true := decide_eq_true c2
  have c2b1 : decide (60 < a0.size) = true := decide_eq_true (by omega)
  clear c2
  obtain rfl := Option.some.inj H
  go_enter Tryz.func56, Tryz.ntmps56
  go_wp2
  go_ret
  exact ⟨fi_, bel_ HB.out⟩
 ·rw [if_neg c2] at H
  have c2b0 : decide (60 < (a0.size : Int)) = false := decide_eq_false c2
  have c2b1 : decide (60 < a0.size) = false := decide_eq_false (by omega)
  clear c2
  replace H := Option.bind_eq_some_iff.mp H
  obtain ⟨t148, A30, H⟩ := H
  replace H : (tollref01_Name.l0 k t148 0) = some r := H
  have A3 := Aside0.mk A30
  clear A30
  have H' := Aside0.mk H
  clear H
  go_enter Tryz.func56, Tryz.ntmps56
  go_wp2_with (first | ((with_reducible refine gate_callee (f := 81) rfl ?_); refine goesL_ (some 9) rfl rfl Tryz.func81 kr_ rfl #[.string a0, .int .u8 46] rfl rl_ ?_; (with_reducible refine (tollref01_Split.calls k a0 46 t148 _ A3.out).mono ?_); rintro e w4 ⟨v149, rfl, ho0, hb⟩; refine ⟨_, rfl, ?_⟩; have n0_ := am_ (Kd.R_lower ho0 (below_size (bel_ HB.out))); have n1_ := am_ (below_step (bel_ HB.out) hb); clear HB; have HO150 := n0_; have HB := n1_; clear n0_ n1_; (try clear hb); (try clear hb2); (try clear hk); (try clear hi); (try clear ho0)))
  go_loopg [4] k (fun kq v4 w' => ∃ (x4_1 : Int), v4 = .int .i64 x4_1 ∧ Aside0 (tollref01_Name.l0 kq t148 x4_1 = some r) ∧ Aside0 (kq ≤ k) ∧ Aside0 (Kd.R Kd.string 9 w' w.heap.size (fun _ => True) v149 t148) ∧ Aside0 (Below w.heap.size w w'))
  case atStart => exact ⟨(0), sd_, H', ⟨Nat.le_refl _⟩, ⟨by (with_reducible repeat (first | apply Kd.R_alloc | apply Kd.R_drewN | apply Kd.R_drew)); exact HO150.out⟩, ⟨bel_ HB.out⟩⟩
  case round =>
   clear H'
   try clear c2
   try clear c2b0
   try clear c2b1
   try clear p2
   obtain ⟨x4_1, rfl, HA, HK1, HO_3, HB⟩ := hrel
   cases gk with
   | zero => exact absurd HA.out (by simp [tollref01_Name.l0])
   | succ k1 =>
    have H := HA.out
    clear HA
    simp only [tollref01_Name.l0] at H
    by_cases c5 : x4_1 < (t148.length : Int)
    ·rw [if_pos c5] at H
     have c5b0 : decide (x4_1 < (t148.length : Int)) = true := decide_eq_true c5
     clear c5
     by_cases c6 : 0 ≤ x4_1
     ·rw [if_pos c6] at H
      have c6b0 : decide (0 ≤ x4_1) = true := decide_eq_true c6
      clear c6
      replace H := Option.bind_eq_some_iff.mp H
      obtain ⟨t152, A70, H⟩ := H
      replace H : (if t152 = true then (tollref01_Name.l0 k1 t148 (wrap64 (x4_1 + 1))) else (some false)) = some r := H
      have A7 := Aside0.mk A70
      clear A70
      by_cases c8 : t152 = true
      ·subst c8
       have H1 : (tollref01_Name.l0 k1 t148 (wrap64 (x4_1 + 1))) = some r := by rw [if_pos rfl] at H; exact H
       clear H
       have H := H1
       clear H1
       have H' := Aside0.mk H
       clear H
       obtain ⟨Ao9, co9, eo9⟩ := Kd.R_slice HO_3.out
       subst eo9
       have p151 : 0 ≤ (x4_1 : Int) := of_decide_eq_true as_
       have q151 : x4_1 < (t148.length : Int) := of_decide_eq_true as_
       obtain ⟨ad151, e151, hx151_0⟩ := Kd.at_string (Kd.R_reads' HO_3.out).2.2 x4_1 p151 q151
       cases e151
       replace p151 := eq_true p151
       replace q151 := eq_true q151
       go_wp2_with (first | ((with_reducible refine gate_callee (f := 82) rfl ?_); refine goesL_ (some 20) rfl rfl Tryz.func82 kr_ rfl #[.string (rdOf ByteArray.empty t148 x4_1)] rfl rl_ ?_; (with_reducible refine (tollref01_Label.calls k1 (rdOf ByteArray.empty t148 x4_1) true _ A7.out).mono ?_); rintro e w' ⟨rfl, ⟨nd, rfl⟩⟩; refine ⟨_, rfl, ?_⟩))
       go_roundg k1
       case measure => have := HK1.out; omega
       case rel => exact ⟨(wrap64 (x4_1 + 1)), sd_, H', ⟨by have := HK1.out; omega⟩, ⟨by (with_reducible repeat (first | apply Kd.R_alloc | apply Kd.R_drewN | apply Kd.R_drew)); exact HO_3.out⟩, ⟨bel_ HB.out⟩⟩
      ·replace c8 := Bool.eq_false_iff.mpr c8
       subst c8
       have H1 : (some false) = some r := by rw [if_neg (show ¬ (false = true) by decide)] at H; exact H
       clear H
       have H := H1
       clear H1
       obtain rfl := Option.some.inj H
       obtain ⟨Ao10, co10, eo10⟩ := Kd.R_slice HO_3.out
       subst eo10
       have p151 : 0 ≤ (x4_1 : Int) := of_decide_eq_true as_
       have q151 : x4_1 < (t148.length : Int) := of_decide_eq_true as_
       obtain ⟨ad151, e151, hx151_0⟩ := Kd.at_string (Kd.R_reads' HO_3.out).2.2 x4_1 p151 q151
       cases e151
       replace p151 := eq_true p151
       replace q151 := eq_true q151
       go_wp2_with (first | ((with_reducible refine gate_callee (f := 82) rfl ?_); refine goesL_ (some 20) rfl rfl Tryz.func82 kr_ rfl #[.string (rdOf ByteArray.empty t148 x4_1)] rfl rl_ ?_; (with_reducible refine (tollref01_Label.calls k1 (rdOf ByteArray.empty t148 x4_1) false _ A7.out).mono ?_); rintro e w' ⟨rfl, ⟨nd, rfl⟩⟩; refine ⟨_, rfl, ?_⟩))
       go_ret
       exact ⟨fi_, bel_ HB.out⟩
     ·rw [if_neg c6] at H
      exact absurd H (by simp)
    ·rw [if_neg c5] at H
     have c5b0 : decide (x4_1 < (t148.length : Int)) = false := decide_eq_false c5
     clear c5
     obtain rfl := Option.some.inj H
     obtain ⟨Ao11, co11, eo11⟩ := Kd.R_slice HO_3.out
     subst eo11
     go_wp2
     go_ret
     exact ⟨fi_, bel_ HB.out⟩

end Go.Proofs.YtfdopmjgiakcdaaGreatDoor.P
