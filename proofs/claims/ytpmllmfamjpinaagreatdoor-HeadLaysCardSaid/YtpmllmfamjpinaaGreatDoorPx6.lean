-- written by wip/tool/hprint.py of this repo: the kit's print, with contracts by hand joined; Lean checks it.
import Derived.Test.YtpmllmfamjpinaaGreatDoorPx0
import Derived.Test.YtpmllmfamjpinaaGreatDoorPx5
namespace Go.Proofs.YtpmllmfamjpinaaGreatDoor.P
open Go.RowKit Go.Proofs.YtpmllmfamjpinaaGreatDoorW.PrintWords Go.Proofs.YtpmllmfamjpinaaGreatDoorW.PrintLast Go.Proofs.YtpmllmfamjpinaaGreatDoorW.PrintMore
attribute [local go_sem] max2_int min2_int max_two min_two max_three min_three max_four min_four   -- for this text's walks alone
set_option linter.unusedVariables false
set_option linter.unusedSimpArgs false

/-! ### tollref01_Label: function 90 -/
def tollref01_Label.l0 : Nat → ByteArray → Int → Option (Bool)
 | 0, _, _ => none
 | k + 1, x0, x3 => if x3 < (x0.size : Int) then (if 0 ≤ x3 then (if x3 = 0 then (if 97 ≤ (bt x0 x3) then (if (bt x0 x3) ≤ 122 then (tollref01_Label.l0 k x0 (wrap64 (x3 + 1))) else (if 48 ≤ (bt x0 x3) then (if (bt x0 x3) ≤ 57 then (tollref01_Label.l0 k x0 (wrap64 (x3 + 1))) else (if (bt x0 x3) = 45 then (some false) else (some false))) else (if (bt x0 x3) = 45 then (some false) else (some false)))) else (if 48 ≤ (bt x0 x3) then (if (bt x0 x3) ≤ 57 then (tollref01_Label.l0 k x0 (wrap64 (x3 + 1))) else (if (bt x0 x3) = 45 then (some false) else (some false))) else (if (bt x0 x3) = 45 then (some false) else (some false)))) else (if 97 ≤ (bt x0 x3) then (if (bt x0 x3) ≤ 122 then (tollref01_Label.l0 k x0 (wrap64 (x3 + 1))) else (if 48 ≤ (bt x0 x3) then (if (bt x0 x3) ≤ 57 then (tollref01_Label.l0 k x0 (wrap64 (x3 + 1))) else (if (bt x0 x3) = 45 then (if (x3 = (wrap64 ((x0.size : Int) - 1))) then (some false) else (tollref01_Label.l0 k x0 (wrap64 (x3 + 1)))) else (some false))) else (if (bt x0 x3) = 45 then (if (x3 = (wrap64 ((x0.size : Int) - 1))) then (some false) else (tollref01_Label.l0 k x0 (wrap64 (x3 + 1)))) else (some false)))) else (if 48 ≤ (bt x0 x3) then (if (bt x0 x3) ≤ 57 then (tollref01_Label.l0 k x0 (wrap64 (x3 + 1))) else (if (bt x0 x3) = 45 then (if (x3 = (wrap64 ((x0.size : Int) - 1))) then (some false) else (tollref01_Label.l0 k x0 (wrap64 (x3 + 1)))) else (some false))) else (if (bt x0 x3) = 45 then (if (x3 = (wrap64 ((x0.size : Int) - 1))) then (some false) else (tollref01_Label.l0 k x0 (wrap64 (x3 + 1)))) else (some false))))) else (none)) else (if 1 ≤ (x0.size : Int) then (some (decide ((x0.size : Int) ≤ 20))) else (some false))
def tollref01_Label.f (k : Nat) (a0 : ByteArray) : Option (Bool) := tollref01_Label.l0 k a0 0
theorem tollref01_Label.mono_l : ∀ k, (∀ y0 y1, LeO (tollref01_Label.l0 k y0 y1) (tollref01_Label.l0 (k + 1) y0 y1))
 | 0 => fun _ _ r h => by simp [tollref01_Label.l0] at h
 | k + 1 => by
  have ih0 := tollref01_Label.mono_l k
  ·intro y0 y1
   unfold tollref01_Label.l0
   repeat' first
   | (with_reducible exact ih0 _ _)
   | (with_reducible exact LeO.refl _)
   | (with_reducible exact LeO.none _)
   | (with_reducible refine LeO.ite ?_ ?_)
   | (with_reducible refine LeO.bind ?_ (fun _ => ?_))
   | exact ih0 _ _
   | exact LeO.none _
   | refine LeO.ite ?_ ?_
   | refine LeO.bind ?_ (fun _ => ?_)
theorem tollref01_Label.mono : ∀ a0 k, LeO (tollref01_Label.f k a0) (tollref01_Label.f (k + 1) a0) := by
 intro a0 k
 have ih0 := tollref01_Label.mono_l k
 unfold tollref01_Label.f
 repeat' first
   | (with_reducible exact ih0 _ _)
   | (with_reducible exact LeO.refl _)
   | (with_reducible exact LeO.none _)
   | (with_reducible refine LeO.ite ?_ ?_)
   | (with_reducible refine LeO.bind ?_ (fun _ => ?_))
   | exact ih0 _ _
   | exact LeO.none _
   | refine LeO.ite ?_ ?_
   | refine LeO.bind ?_ (fun _ => ?_)
set_option maxHeartbeats 8000000 in
set_option maxRecDepth 100000 in
theorem tollref01_Label.calls (k : Nat) (a0 : ByteArray) (r : Bool) (w : World) (h : tollref01_Label.f k a0 = some r) :
  Calls Tryz.prog 90 #[.string a0] w fun e w' => e = .returned (.bool r) ∧ Drawn0 w w' := by
 have H : (tollref01_Label.l0 k a0 0) = some r := h;clear h;have H' := Aside0.mk H;clear H;go_enter Tryz.func90, Tryz.ntmps90
 go_wp2
 go_loopg [3] k (fun kq v3 w' => ∃ (x3_1 : Int), v3 = .int .i64 x3_1 ∧ Aside0 (tollref01_Label.l0 kq a0 x3_1 = some r) ∧ Aside0 (kq ≤ k) ∧ Drawn0 w w')
 case atStart => exact ⟨(0), sd_, H', ⟨Nat.le_refl _⟩, by repeat (first | exact Drawn0.refl _ | apply Drawn0.step)⟩
 case round =>
  clear H';obtain ⟨x3_1, rfl, HA, HK1, ⟨m1, rfl⟩⟩ := hrel;cases gk with
  | zero => exact absurd HA.out (by simp [tollref01_Label.l0])
  | succ k1 =>
   have H := HA.out;clear HA;simp only [tollref01_Label.l0] at H;by_cases c2 : x3_1 < (a0.size : Int)
   ·rw [if_pos c2] at H
    have c2b0 : decide (x3_1 < (a0.size : Int)) = true := decide_eq_true c2;clear c2;by_cases c3 : 0 ≤ x3_1
    ·rw [if_pos c3] at H
     have c3b0 : decide (0 ≤ x3_1) = true := decide_eq_true c3;clear c3;by_cases c5 : x3_1 = 0
     ·rw [if_pos c5] at H
      have c5b0 : (x3_1 == 0) = true := beq_iff_eq.mpr c5;have c5b1 : (x3_1 != 0) = false := bne_eq_false_iff_eq.mpr c5;clear c5;by_cases c6 : 97 ≤ (bt a0 x3_1)
      ·rw [if_pos c6] at H
       have c6b0 : decide (97 ≤ (bt a0 x3_1)) = true := decide_eq_true c6;clear c6;by_cases c7 : (bt a0 x3_1) ≤ 122
       ·rw [if_pos c7] at H
        have c7b0 : decide ((bt a0 x3_1) ≤ 122) = true := decide_eq_true c7;clear c7;have H' := Aside0.mk H;clear H;have p4 : 0 ≤ (x3_1 : Int) := of_decide_eq_true as_;have q4 : x3_1 < (a0.size : Int) := of_decide_eq_true as_;have hx4 := bt_at a0 x3_1;replace p4 := eq_true p4;replace q4 := eq_true q4;go_wp2
        go_roundg k1
        case measure => have := HK1.out; omega
        case rel => exact ⟨(wrap64 (x3_1 + 1)), sd_, H', ⟨by have := HK1.out; omega⟩, by repeat (first | exact Drawn0.refl _ | apply Drawn0.step)⟩
       ·rw [if_neg c7] at H
        have c7b0 : decide ((bt a0 x3_1) ≤ 122) = false := decide_eq_false c7;clear c7;by_cases c8 : 48 ≤ (bt a0 x3_1)
        ·rw [if_pos c8] at H
         have c8b0 : decide (48 ≤ (bt a0 x3_1)) = true := decide_eq_true c8;clear c8;by_cases c9 : (bt a0 x3_1) ≤ 57
         ·rw [if_pos c9] at H
          have c9b0 : decide ((bt a0 x3_1) ≤ 57) = true := decide_eq_true c9;clear c9;have H' := Aside0.mk H;clear H;have p4 : 0 ≤ (x3_1 : Int) := of_decide_eq_true as_;have q4 : x3_1 < (a0.size : Int) := of_decide_eq_true as_;have hx4 := bt_at a0 x3_1;replace p4 := eq_true p4;replace q4 := eq_true q4;go_wp2
          go_roundg k1
          case measure => have := HK1.out; omega
          case rel => exact ⟨(wrap64 (x3_1 + 1)), sd_, H', ⟨by have := HK1.out; omega⟩, by repeat (first | exact Drawn0.refl _ | apply Drawn0.step)⟩
         ·rw [if_neg c9] at H
          have c9b0 : decide ((bt a0 x3_1) ≤ 57) = false := decide_eq_false c9;clear c9;by_cases c10 : (bt a0 x3_1) = 45
          ·rw [if_pos c10] at H
           have c10b0 : ((bt a0 x3_1) == 45) = true := beq_iff_eq.mpr c10;have c10b1 : ((bt a0 x3_1) != 45) = false := bne_eq_false_iff_eq.mpr c10;clear c10;obtain rfl := Option.some.inj H;have p4 : 0 ≤ (x3_1 : Int) := of_decide_eq_true as_;have q4 : x3_1 < (a0.size : Int) := of_decide_eq_true as_;have hx4 := bt_at a0 x3_1;replace p4 := eq_true p4;replace q4 := eq_true q4;go_wp2
           go_ret
           exact ⟨by first | rfl | (simp; done) | (simp [*]; done) | (simp [bne_nil_isEmpty, beq_nil_isEmpty]; done) | (simp [*, bne_nil_isEmpty, beq_nil_isEmpty]; done), by repeat (first | exact Drawn0.refl _ | apply Drawn0.step)⟩
          ·rw [if_neg c10] at H
           have c10b0 : ((bt a0 x3_1) == 45) = false := beq_eq_false_iff_ne.mpr c10;have c10b1 : ((bt a0 x3_1) != 45) = true := bne_iff_ne.mpr c10;obtain rfl := Option.some.inj H;have p4 : 0 ≤ (x3_1 : Int) := of_decide_eq_true as_;have q4 : x3_1 < (a0.size : Int) := of_decide_eq_true as_;have hx4 := bt_at a0 x3_1;replace p4 := eq_true p4;replace q4 := eq_true q4;go_wp2
           go_ret
           exact ⟨by first | rfl | (simp; done) | (simp [*]; done) | (simp [bne_nil_isEmpty, beq_nil_isEmpty]; done) | (simp [*, bne_nil_isEmpty, beq_nil_isEmpty]; done), by repeat (first | exact Drawn0.refl _ | apply Drawn0.step)⟩
        ·rw [if_neg c8] at H
         have c8b0 : decide (48 ≤ (bt a0 x3_1)) = false := decide_eq_false c8;clear c8;by_cases c11 : (bt a0 x3_1) = 45
         ·rw [if_pos c11] at H
          have c11b0 : ((bt a0 x3_1) == 45) = true := beq_iff_eq.mpr c11;have c11b1 : ((bt a0 x3_1) != 45) = false := bne_eq_false_iff_eq.mpr c11;clear c11;obtain rfl := Option.some.inj H;have p4 : 0 ≤ (x3_1 : Int) := of_decide_eq_true as_;have q4 : x3_1 < (a0.size : Int) := of_decide_eq_true as_;have hx4 := bt_at a0 x3_1;replace p4 := eq_true p4;replace q4 := eq_true q4;go_wp2
          go_ret
          exact ⟨by first | rfl | (simp; done) | (simp [*]; done) | (simp [bne_nil_isEmpty, beq_nil_isEmpty]; done) | (simp [*, bne_nil_isEmpty, beq_nil_isEmpty]; done), by repeat (first | exact Drawn0.refl _ | apply Drawn0.step)⟩
         ·rw [if_neg c11] at H
          have c11b0 : ((bt a0 x3_1) == 45) = false := beq_eq_false_iff_ne.mpr c11;have c11b1 : ((bt a0 x3_1) != 45) = true := bne_iff_ne.mpr c11;obtain rfl := Option.some.inj H;have p4 : 0 ≤ (x3_1 : Int) := of_decide_eq_true as_;have q4 : x3_1 < (a0.size : Int) := of_decide_eq_true as_;have hx4 := bt_at a0 x3_1;replace p4 := eq_true p4;replace q4 := eq_true q4;go_wp2
          go_ret
          exact ⟨by first | rfl | (simp; done) | (simp [*]; done) | (simp [bne_nil_isEmpty, beq_nil_isEmpty]; done) | (simp [*, bne_nil_isEmpty, beq_nil_isEmpty]; done), by repeat (first | exact Drawn0.refl _ | apply Drawn0.step)⟩
      ·rw [if_neg c6] at H
       have c6b0 : decide (97 ≤ (bt a0 x3_1)) = false := decide_eq_false c6;clear c6;by_cases c12 : 48 ≤ (bt a0 x3_1)
       ·rw [if_pos c12] at H
        have c12b0 : decide (48 ≤ (bt a0 x3_1)) = true := decide_eq_true c12;clear c12;by_cases c13 : (bt a0 x3_1) ≤ 57
        ·rw [if_pos c13] at H
         have c13b0 : decide ((bt a0 x3_1) ≤ 57) = true := decide_eq_true c13;clear c13;have H' := Aside0.mk H;clear H;have p4 : 0 ≤ (x3_1 : Int) := of_decide_eq_true as_;have q4 : x3_1 < (a0.size : Int) := of_decide_eq_true as_;have hx4 := bt_at a0 x3_1;replace p4 := eq_true p4;replace q4 := eq_true q4;go_wp2
         go_roundg k1
         case measure => have := HK1.out; omega
         case rel => exact ⟨(wrap64 (x3_1 + 1)), sd_, H', ⟨by have := HK1.out; omega⟩, by repeat (first | exact Drawn0.refl _ | apply Drawn0.step)⟩
        ·rw [if_neg c13] at H
         have c13b0 : decide ((bt a0 x3_1) ≤ 57) = false := decide_eq_false c13;clear c13;by_cases c14 : (bt a0 x3_1) = 45
         ·rw [if_pos c14] at H
          have c14b0 : ((bt a0 x3_1) == 45) = true := beq_iff_eq.mpr c14;have c14b1 : ((bt a0 x3_1) != 45) = false := bne_eq_false_iff_eq.mpr c14;clear c14;obtain rfl := Option.some.inj H;have p4 : 0 ≤ (x3_1 : Int) := of_decide_eq_true as_;have q4 : x3_1 < (a0.size : Int) := of_decide_eq_true as_;have hx4 := bt_at a0 x3_1;replace p4 := eq_true p4;replace q4 := eq_true q4;go_wp2
          go_ret
          exact ⟨by first | rfl | (simp; done) | (simp [*]; done) | (simp [bne_nil_isEmpty, beq_nil_isEmpty]; done) | (simp [*, bne_nil_isEmpty, beq_nil_isEmpty]; done), by repeat (first | exact Drawn0.refl _ | apply Drawn0.step)⟩
         ·rw [if_neg c14] at H
          have c14b0 : ((bt a0 x3_1) == 45) = false := beq_eq_false_iff_ne.mpr c14;have c14b1 : ((bt a0 x3_1) != 45) = true := bne_iff_ne.mpr c14;obtain rfl := Option.some.inj H;have p4 : 0 ≤ (x3_1 : Int) := of_decide_eq_true as_;have q4 : x3_1 < (a0.size : Int) := of_decide_eq_true as_;have hx4 := bt_at a0 x3_1;replace p4 := eq_true p4;replace q4 := eq_true q4;go_wp2
          go_ret
          exact ⟨by first | rfl | (simp; done) | (simp [*]; done) | (simp [bne_nil_isEmpty, beq_nil_isEmpty]; done) | (simp [*, bne_nil_isEmpty, beq_nil_isEmpty]; done), by repeat (first | exact Drawn0.refl _ | apply Drawn0.step)⟩
       ·rw [if_neg c12] at H
        have c12b0 : decide (48 ≤ (bt a0 x3_1)) = false := decide_eq_false c12;clear c12;by_cases c15 : (bt a0 x3_1) = 45
        ·rw [if_pos c15] at H
         have c15b0 : ((bt a0 x3_1) == 45) = true := beq_iff_eq.mpr c15;have c15b1 : ((bt a0 x3_1) != 45) = false := bne_eq_false_iff_eq.mpr c15;clear c15;obtain rfl := Option.some.inj H;have p4 : 0 ≤ (x3_1 : Int) := of_decide_eq_true as_;have q4 : x3_1 < (a0.size : Int) := of_decide_eq_true as_;have hx4 := bt_at a0 x3_1;replace p4 := eq_true p4;replace q4 := eq_true q4;go_wp2
         go_ret
         exact ⟨by first | rfl | (simp; done) | (simp [*]; done) | (simp [bne_nil_isEmpty, beq_nil_isEmpty]; done) | (simp [*, bne_nil_isEmpty, beq_nil_isEmpty]; done), by repeat (first | exact Drawn0.refl _ | apply Drawn0.step)⟩
        ·rw [if_neg c15] at H
         have c15b0 : ((bt a0 x3_1) == 45) = false := beq_eq_false_iff_ne.mpr c15;have c15b1 : ((bt a0 x3_1) != 45) = true := bne_iff_ne.mpr c15;obtain rfl := Option.some.inj H;have p4 : 0 ≤ (x3_1 : Int) := of_decide_eq_true as_;have q4 : x3_1 < (a0.size : Int) := of_decide_eq_true as_;have hx4 := bt_at a0 x3_1;replace p4 := eq_true p4;replace q4 := eq_true q4;go_wp2
         go_ret
         exact ⟨by first | rfl | (simp; done) | (simp [*]; done) | (simp [bne_nil_isEmpty, beq_nil_isEmpty]; done) | (simp [*, bne_nil_isEmpty, beq_nil_isEmpty]; done), by repeat (first | exact Drawn0.refl _ | apply Drawn0.step)⟩
     ·rw [if_neg c5] at H
      have c5b0 : (x3_1 == 0) = false := beq_eq_false_iff_ne.mpr c5;have c5b1 : (x3_1 != 0) = true := bne_iff_ne.mpr c5;by_cases c16 : 97 ≤ (bt a0 x3_1)
      ·rw [if_pos c16] at H
       have c16b0 : decide (97 ≤ (bt a0 x3_1)) = true := decide_eq_true c16;clear c16;by_cases c17 : (bt a0 x3_1) ≤ 122
       ·rw [if_pos c17] at H
        have c17b0 : decide ((bt a0 x3_1) ≤ 122) = true := decide_eq_true c17;clear c17;have H' := Aside0.mk H;clear H;have p4 : 0 ≤ (x3_1 : Int) := of_decide_eq_true as_;have q4 : x3_1 < (a0.size : Int) := of_decide_eq_true as_;have hx4 := bt_at a0 x3_1;replace p4 := eq_true p4;replace q4 := eq_true q4;go_wp2
        go_roundg k1
        case measure => have := HK1.out; omega
        case rel => exact ⟨(wrap64 (x3_1 + 1)), sd_, H', ⟨by have := HK1.out; omega⟩, by repeat (first | exact Drawn0.refl _ | apply Drawn0.step)⟩
       ·rw [if_neg c17] at H
        have c17b0 : decide ((bt a0 x3_1) ≤ 122) = false := decide_eq_false c17;clear c17;by_cases c18 : 48 ≤ (bt a0 x3_1)
        ·rw [if_pos c18] at H
         have c18b0 : decide (48 ≤ (bt a0 x3_1)) = true := decide_eq_true c18;clear c18;by_cases c19 : (bt a0 x3_1) ≤ 57
         ·rw [if_pos c19] at H
          have c19b0 : decide ((bt a0 x3_1) ≤ 57) = true := decide_eq_true c19;clear c19;have H' := Aside0.mk H;clear H;have p4 : 0 ≤ (x3_1 : Int) := of_decide_eq_true as_;have q4 : x3_1 < (a0.size : Int) := of_decide_eq_true as_;have hx4 := bt_at a0 x3_1;replace p4 := eq_true p4;replace q4 := eq_true q4;go_wp2
          go_roundg k1
          case measure => have := HK1.out; omega
          case rel => exact ⟨(wrap64 (x3_1 + 1)), sd_, H', ⟨by have := HK1.out; omega⟩, by repeat (first | exact Drawn0.refl _ | apply Drawn0.step)⟩
         ·rw [if_neg c19] at H
          have c19b0 : decide ((bt a0 x3_1) ≤ 57) = false := decide_eq_false c19;clear c19;by_cases c20 : (bt a0 x3_1) = 45
          ·rw [if_pos c20] at H
           have c20b0 : ((bt a0 x3_1) == 45) = true := beq_iff_eq.mpr c20;have c20b1 : ((bt a0 x3_1) != 45) = false := bne_eq_false_iff_eq.mpr c20;clear c20;by_cases c21 : (x3_1 = (wrap64 ((a0.size : Int) - 1)))
           ·rw [if_pos c21] at H
            have c21b0 : (x3_1 == (wrap64 ((a0.size : Int) - 1))) = true := beq_iff_eq.mpr c21;have c21b1 : (x3_1 != (wrap64 ((a0.size : Int) - 1))) = false := bne_eq_false_iff_eq.mpr c21;clear c21;obtain rfl := Option.some.inj H;have p4 : 0 ≤ (x3_1 : Int) := of_decide_eq_true as_;have q4 : x3_1 < (a0.size : Int) := of_decide_eq_true as_;have hx4 := bt_at a0 x3_1;replace p4 := eq_true p4;replace q4 := eq_true q4;go_wp2
            go_ret
            exact ⟨by first | rfl | (simp; done) | (simp [*]; done) | (simp [bne_nil_isEmpty, beq_nil_isEmpty]; done) | (simp [*, bne_nil_isEmpty, beq_nil_isEmpty]; done), by repeat (first | exact Drawn0.refl _ | apply Drawn0.step)⟩
           ·rw [if_neg c21] at H
            have c21b0 : (x3_1 == (wrap64 ((a0.size : Int) - 1))) = false := beq_eq_false_iff_ne.mpr c21;have c21b1 : (x3_1 != (wrap64 ((a0.size : Int) - 1))) = true := bne_iff_ne.mpr c21;have H' := Aside0.mk H;clear H;have p4 : 0 ≤ (x3_1 : Int) := of_decide_eq_true as_;have q4 : x3_1 < (a0.size : Int) := of_decide_eq_true as_;have hx4 := bt_at a0 x3_1;replace p4 := eq_true p4;replace q4 := eq_true q4;go_wp2
            go_roundg k1
            case measure => have := HK1.out; omega
            case rel => exact ⟨(wrap64 (x3_1 + 1)), sd_, H', ⟨by have := HK1.out; omega⟩, by repeat (first | exact Drawn0.refl _ | apply Drawn0.step)⟩
          ·rw [if_neg c20] at H
           have c20b0 : ((bt a0 x3_1) == 45) = false := beq_eq_false_iff_ne.mpr c20;have c20b1 : ((bt a0 x3_1) != 45) = true := bne_iff_ne.mpr c20;obtain rfl := Option.some.inj H;have p4 : 0 ≤ (x3_1 : Int) := of_decide_eq_true as_;have q4 : x3_1 < (a0.size : Int) := of_decide_eq_true as_;have hx4 := bt_at a0 x3_1;replace p4 := eq_true p4;replace q4 := eq_true q4;go_wp2
           go_ret
           exact ⟨by first | rfl | (simp; done) | (simp [*]; done) | (simp [bne_nil_isEmpty, beq_nil_isEmpty]; done) | (simp [*, bne_nil_isEmpty, beq_nil_isEmpty]; done), by repeat (first | exact Drawn0.refl _ | apply Drawn0.step)⟩
        ·rw [if_neg c18] at H
         have c18b0 : decide (48 ≤ (bt a0 x3_1)) = false := decide_eq_false c18;clear c18;by_cases c22 : (bt a0 x3_1) = 45
         ·rw [if_pos c22] at H
          have c22b0 : ((bt a0 x3_1) == 45) = true := beq_iff_eq.mpr c22;have c22b1 : ((bt a0 x3_1) != 45) = false := bne_eq_false_iff_eq.mpr c22;clear c22;by_cases c23 : (x3_1 = (wrap64 ((a0.size : Int) - 1)))
          ·rw [if_pos c23] at H
           have c23b0 : (x3_1 == (wrap64 ((a0.size : Int) - 1))) = true := beq_iff_eq.mpr c23;have c23b1 : (x3_1 != (wrap64 ((a0.size : Int) - 1))) = false := bne_eq_false_iff_eq.mpr c23;clear c23;obtain rfl := Option.some.inj H;have p4 : 0 ≤ (x3_1 : Int) := of_decide_eq_true as_;have q4 : x3_1 < (a0.size : Int) := of_decide_eq_true as_;have hx4 := bt_at a0 x3_1;replace p4 := eq_true p4;replace q4 := eq_true q4;go_wp2
           go_ret
           exact ⟨by first | rfl | (simp; done) | (simp [*]; done) | (simp [bne_nil_isEmpty, beq_nil_isEmpty]; done) | (simp [*, bne_nil_isEmpty, beq_nil_isEmpty]; done), by repeat (first | exact Drawn0.refl _ | apply Drawn0.step)⟩
          ·rw [if_neg c23] at H
           have c23b0 : (x3_1 == (wrap64 ((a0.size : Int) - 1))) = false := beq_eq_false_iff_ne.mpr c23;have c23b1 : (x3_1 != (wrap64 ((a0.size : Int) - 1))) = true := bne_iff_ne.mpr c23;have H' := Aside0.mk H;clear H;have p4 : 0 ≤ (x3_1 : Int) := of_decide_eq_true as_;have q4 : x3_1 < (a0.size : Int) := of_decide_eq_true as_;have hx4 := bt_at a0 x3_1;replace p4 := eq_true p4;replace q4 := eq_true q4;go_wp2
           go_roundg k1
           case measure => have := HK1.out; omega
           case rel => exact ⟨(wrap64 (x3_1 + 1)), sd_, H', ⟨by have := HK1.out; omega⟩, by repeat (first | exact Drawn0.refl _ | apply Drawn0.step)⟩
         ·rw [if_neg c22] at H
          have c22b0 : ((bt a0 x3_1) == 45) = false := beq_eq_false_iff_ne.mpr c22;have c22b1 : ((bt a0 x3_1) != 45) = true := bne_iff_ne.mpr c22;obtain rfl := Option.some.inj H;have p4 : 0 ≤ (x3_1 : Int) := of_decide_eq_true as_;have q4 : x3_1 < (a0.size : Int) := of_decide_eq_true as_;have hx4 := bt_at a0 x3_1;replace p4 := eq_true p4;replace q4 := eq_true q4;go_wp2
          go_ret
          exact ⟨by first | rfl | (simp; done) | (simp [*]; done) | (simp [bne_nil_isEmpty, beq_nil_isEmpty]; done) | (simp [*, bne_nil_isEmpty, beq_nil_isEmpty]; done), by repeat (first | exact Drawn0.refl _ | apply Drawn0.step)⟩
      ·rw [if_neg c16] at H
       have c16b0 : decide (97 ≤ (bt a0 x3_1)) = false := decide_eq_false c16;clear c16;by_cases c24 : 48 ≤ (bt a0 x3_1)
       ·rw [if_pos c24] at H
        have c24b0 : decide (48 ≤ (bt a0 x3_1)) = true := decide_eq_true c24;clear c24;by_cases c25 : (bt a0 x3_1) ≤ 57
        ·rw [if_pos c25] at H
         have c25b0 : decide ((bt a0 x3_1) ≤ 57) = true := decide_eq_true c25;clear c25;have H' := Aside0.mk H;clear H;have p4 : 0 ≤ (x3_1 : Int) := of_decide_eq_true as_;have q4 : x3_1 < (a0.size : Int) := of_decide_eq_true as_;have hx4 := bt_at a0 x3_1;replace p4 := eq_true p4;replace q4 := eq_true q4;go_wp2
         go_roundg k1
         case measure => have := HK1.out; omega
         case rel => exact ⟨(wrap64 (x3_1 + 1)), sd_, H', ⟨by have := HK1.out; omega⟩, by repeat (first | exact Drawn0.refl _ | apply Drawn0.step)⟩
        ·rw [if_neg c25] at H
         have c25b0 : decide ((bt a0 x3_1) ≤ 57) = false := decide_eq_false c25;clear c25;by_cases c26 : (bt a0 x3_1) = 45
         ·rw [if_pos c26] at H
          have c26b0 : ((bt a0 x3_1) == 45) = true := beq_iff_eq.mpr c26;have c26b1 : ((bt a0 x3_1) != 45) = false := bne_eq_false_iff_eq.mpr c26;clear c26;by_cases c27 : (x3_1 = (wrap64 ((a0.size : Int) - 1)))
          ·rw [if_pos c27] at H
           have c27b0 : (x3_1 == (wrap64 ((a0.size : Int) - 1))) = true := beq_iff_eq.mpr c27;have c27b1 : (x3_1 != (wrap64 ((a0.size : Int) - 1))) = false := bne_eq_false_iff_eq.mpr c27;clear c27;obtain rfl := Option.some.inj H;have p4 : 0 ≤ (x3_1 : Int) := of_decide_eq_true as_;have q4 : x3_1 < (a0.size : Int) := of_decide_eq_true as_;have hx4 := bt_at a0 x3_1;replace p4 := eq_true p4;replace q4 := eq_true q4;go_wp2
           go_ret
           exact ⟨by first | rfl | (simp; done) | (simp [*]; done) | (simp [bne_nil_isEmpty, beq_nil_isEmpty]; done) | (simp [*, bne_nil_isEmpty, beq_nil_isEmpty]; done), by repeat (first | exact Drawn0.refl _ | apply Drawn0.step)⟩
          ·rw [if_neg c27] at H
           have c27b0 : (x3_1 == (wrap64 ((a0.size : Int) - 1))) = false := beq_eq_false_iff_ne.mpr c27;have c27b1 : (x3_1 != (wrap64 ((a0.size : Int) - 1))) = true := bne_iff_ne.mpr c27;have H' := Aside0.mk H;clear H;have p4 : 0 ≤ (x3_1 : Int) := of_decide_eq_true as_;have q4 : x3_1 < (a0.size : Int) := of_decide_eq_true as_;have hx4 := bt_at a0 x3_1;replace p4 := eq_true p4;replace q4 := eq_true q4;go_wp2
           go_roundg k1
           case measure => have := HK1.out; omega
           case rel => exact ⟨(wrap64 (x3_1 + 1)), sd_, H', ⟨by have := HK1.out; omega⟩, by repeat (first | exact Drawn0.refl _ | apply Drawn0.step)⟩
         ·rw [if_neg c26] at H
          have c26b0 : ((bt a0 x3_1) == 45) = false := beq_eq_false_iff_ne.mpr c26;have c26b1 : ((bt a0 x3_1) != 45) = true := bne_iff_ne.mpr c26;obtain rfl := Option.some.inj H;have p4 : 0 ≤ (x3_1 : Int) := of_decide_eq_true as_;have q4 : x3_1 < (a0.size : Int) := of_decide_eq_true as_;have hx4 := bt_at a0 x3_1;replace p4 := eq_true p4;replace q4 := eq_true q4;go_wp2
          go_ret
          exact ⟨by first | rfl | (simp; done) | (simp [*]; done) | (simp [bne_nil_isEmpty, beq_nil_isEmpty]; done) | (simp [*, bne_nil_isEmpty, beq_nil_isEmpty]; done), by repeat (first | exact Drawn0.refl _ | apply Drawn0.step)⟩
       ·rw [if_neg c24] at H
        have c24b0 : decide (48 ≤ (bt a0 x3_1)) = false := decide_eq_false c24;clear c24;by_cases c28 : (bt a0 x3_1) = 45
        ·rw [if_pos c28] at H
         have c28b0 : ((bt a0 x3_1) == 45) = true := beq_iff_eq.mpr c28;have c28b1 : ((bt a0 x3_1) != 45) = false := bne_eq_false_iff_eq.mpr c28;clear c28;by_cases c29 : (x3_1 = (wrap64 ((a0.size : Int) - 1)))
         ·rw [if_pos c29] at H
          have c29b0 : (x3_1 == (wrap64 ((a0.size : Int) - 1))) = true := beq_iff_eq.mpr c29;have c29b1 : (x3_1 != (wrap64 ((a0.size : Int) - 1))) = false := bne_eq_false_iff_eq.mpr c29;clear c29;obtain rfl := Option.some.inj H;have p4 : 0 ≤ (x3_1 : Int) := of_decide_eq_true as_;have q4 : x3_1 < (a0.size : Int) := of_decide_eq_true as_;have hx4 := bt_at a0 x3_1;replace p4 := eq_true p4;replace q4 := eq_true q4;go_wp2
          go_ret
          exact ⟨by first | rfl | (simp; done) | (simp [*]; done) | (simp [bne_nil_isEmpty, beq_nil_isEmpty]; done) | (simp [*, bne_nil_isEmpty, beq_nil_isEmpty]; done), by repeat (first | exact Drawn0.refl _ | apply Drawn0.step)⟩
         ·rw [if_neg c29] at H
          have c29b0 : (x3_1 == (wrap64 ((a0.size : Int) - 1))) = false := beq_eq_false_iff_ne.mpr c29;have c29b1 : (x3_1 != (wrap64 ((a0.size : Int) - 1))) = true := bne_iff_ne.mpr c29;have H' := Aside0.mk H;clear H;have p4 : 0 ≤ (x3_1 : Int) := of_decide_eq_true as_;have q4 : x3_1 < (a0.size : Int) := of_decide_eq_true as_;have hx4 := bt_at a0 x3_1;replace p4 := eq_true p4;replace q4 := eq_true q4;go_wp2
          go_roundg k1
          case measure => have := HK1.out; omega
          case rel => exact ⟨(wrap64 (x3_1 + 1)), sd_, H', ⟨by have := HK1.out; omega⟩, by repeat (first | exact Drawn0.refl _ | apply Drawn0.step)⟩
        ·rw [if_neg c28] at H
         have c28b0 : ((bt a0 x3_1) == 45) = false := beq_eq_false_iff_ne.mpr c28;have c28b1 : ((bt a0 x3_1) != 45) = true := bne_iff_ne.mpr c28;obtain rfl := Option.some.inj H;have p4 : 0 ≤ (x3_1 : Int) := of_decide_eq_true as_;have q4 : x3_1 < (a0.size : Int) := of_decide_eq_true as_;have hx4 := bt_at a0 x3_1;replace p4 := eq_true p4;replace q4 := eq_true q4;go_wp2
         go_ret
         exact ⟨by first | rfl | (simp; done) | (simp [*]; done) | (simp [bne_nil_isEmpty, beq_nil_isEmpty]; done) | (simp [*, bne_nil_isEmpty, beq_nil_isEmpty]; done), by repeat (first | exact Drawn0.refl _ | apply Drawn0.step)⟩
    ·rw [if_neg c3] at H
     exact absurd H (by simp)
   ·rw [if_neg c2] at H
    have c2b0 : decide (x3_1 < (a0.size : Int)) = false := decide_eq_false c2;clear c2;by_cases c30 : 1 ≤ (a0.size : Int)
    ·rw [if_pos c30] at H
     have c30b0 : decide (1 ≤ (a0.size : Int)) = true := decide_eq_true c30;have c30b1 : decide (1 ≤ a0.size) = true := decide_eq_true (by omega);clear c30;obtain rfl := Option.some.inj H;go_wp2
     go_ret
     exact ⟨by first | rfl | (simp; done) | (simp [*]; done) | (simp [bne_nil_isEmpty, beq_nil_isEmpty]; done) | (simp [*, bne_nil_isEmpty, beq_nil_isEmpty]; done), by repeat (first | exact Drawn0.refl _ | apply Drawn0.step)⟩
    ·rw [if_neg c30] at H
     have c30b0 : decide (1 ≤ (a0.size : Int)) = false := decide_eq_false c30;have c30b1 : decide (1 ≤ a0.size) = false := decide_eq_false (by omega);clear c30;obtain rfl := Option.some.inj H;go_wp2
     go_ret
     exact ⟨by first | rfl | (simp; done) | (simp [*]; done) | (simp [bne_nil_isEmpty, beq_nil_isEmpty]; done) | (simp [*, bne_nil_isEmpty, beq_nil_isEmpty]; done), by repeat (first | exact Drawn0.refl _ | apply Drawn0.step)⟩

/-! ### tollref01_Name: function 71 -/
def tollref01_Name.l0 : Nat → List ByteArray → Int → Option (Bool)
 | 0, _, _ => none
 | k + 1, x3, x4 => if x4 < (x3.length : Int) then (if 0 ≤ x4 then ((tollref01_Label.f k (rdOf ByteArray.empty x3 x4)).bind fun ph => (if ph = true then (tollref01_Name.l0 k x3 (wrap64 (x4 + 1))) else (some false))) else (none)) else (some true)
def tollref01_Name.f (k : Nat) (a0 : ByteArray) : Option (Bool) := if (a0.size : Int) > 60 then (some false) else ((tollref01_Split.f k a0 46).bind fun pb => (tollref01_Name.l0 k pb 0))
theorem tollref01_Name.mono_l : ∀ k, (∀ y0 y1, LeO (tollref01_Name.l0 k y0 y1) (tollref01_Name.l0 (k + 1) y0 y1))
 | 0 => fun _ _ r h => by simp [tollref01_Name.l0] at h
 | k + 1 => by
  have ih0 := tollref01_Name.mono_l k
  ·intro y0 y1
   unfold tollref01_Name.l0;repeat' first
   | (with_reducible exact ih0 _ _)
   | (with_reducible exact tollref01_Label.mono _ _)
   | (with_reducible exact tollref01_Split.mono _ _ _)
   | (with_reducible exact LeO.refl _)
   | (with_reducible exact LeO.none _)
   | (with_reducible refine LeO.ite ?_ ?_)
   | (with_reducible refine LeO.bind ?_ (fun _ => ?_))
   | exact ih0 _ _
   | exact tollref01_Label.mono _ _
   | exact tollref01_Split.mono _ _ _
   | exact LeO.none _
   | refine LeO.ite ?_ ?_
   | refine LeO.bind ?_ (fun _ => ?_)
theorem tollref01_Name.mono : ∀ a0 k, LeO (tollref01_Name.f k a0) (tollref01_Name.f (k + 1) a0) := by
 intro a0 k;have ih0 := tollref01_Name.mono_l k
 unfold tollref01_Name.f;repeat' first
   | (with_reducible exact ih0 _ _)
   | (with_reducible exact tollref01_Label.mono _ _)
   | (with_reducible exact tollref01_Split.mono _ _ _)
   | (with_reducible exact LeO.refl _)
   | (with_reducible exact LeO.none _)
   | (with_reducible refine LeO.ite ?_ ?_)
   | (with_reducible refine LeO.bind ?_ (fun _ => ?_))
   | exact ih0 _ _
   | exact tollref01_Label.mono _ _
   | exact tollref01_Split.mono _ _ _
   | exact LeO.none _
   | refine LeO.ite ?_ ?_
   | refine LeO.bind ?_ (fun _ => ?_)
set_option maxHeartbeats 8000000 in
set_option maxRecDepth 100000 in
theorem tollref01_Name.calls (k : Nat) (a0 : ByteArray) (r : Bool) (w : World) (h : tollref01_Name.f k a0 = some r) :
  Calls Tryz.prog 71 #[.string a0] w fun e w' => e = .returned (.bool r) ∧ Below w.heap.size w w' := by
 have HB := am_ (Below.refl w.heap.size w);have H : (if (a0.size : Int) > 60 then (some false) else ((tollref01_Split.f k a0 46).bind fun pb => (tollref01_Name.l0 k pb 0))) = some r := h;clear h;by_cases c2 : (a0.size : Int) > 60
 ·rw [if_pos c2] at H
  have c2b0 : decide (60 < (a0.size : Int)) = true := decide_eq_true c2;have c2b1 : decide (60 < a0.size) = true := decide_eq_true (by omega);clear c2;obtain rfl := Option.some.inj H;go_enter Tryz.func71, Tryz.ntmps71
  go_wp2
  go_ret
  exact ⟨fi_, bel_ HB.out⟩
 ·rw [if_neg c2] at H
  have c2b0 : decide (60 < (a0.size : Int)) = false := decide_eq_false c2;have c2b1 : decide (60 < a0.size) = false := decide_eq_false (by omega);clear c2;replace H := Option.bind_eq_some_iff.mp H;obtain ⟨pb, A30, H⟩ := H;replace H : (tollref01_Name.l0 k pb 0) = some r := H;have A3 := Aside0.mk A30;clear A30;have H' := Aside0.mk H;clear H;go_enter Tryz.func71, Tryz.ntmps71
  go_wp2_with (first | ((with_reducible refine gate_callee (f := 89) rfl ?_); refine goesL_ (some 9) rfl rfl Tryz.func89 kr_ rfl #[.string a0, .int .u8 46] rfl rl_ ?_; (with_reducible refine (tollref01_Split.calls k a0 46 pb _ A3.out).mono ?_); rintro e w4 ⟨pk, rfl, ho0, hb⟩; refine ⟨_, rfl, ?_⟩; have n0_ := am_ (Kd.R_lower ho0 (below_size (bel_ HB.out))); have n1_ := am_ (below_step (bel_ HB.out) hb); clear HB; have pl := n0_; have HB := n1_; clear n0_ n1_; (try clear hb); (try clear hb2); (try clear hk); (try clear hi); (try clear ho0)))
  go_loopg [4] k (fun kq v4 w' => ∃ (x4_1 : Int), v4 = .int .i64 x4_1 ∧ Aside0 (tollref01_Name.l0 kq pb x4_1 = some r) ∧ Aside0 (kq ≤ k) ∧ Aside0 (Kd.R Kd.string 9 w' w.heap.size (fun _ => True) pk pb) ∧ Aside0 (Below w.heap.size w w'))
  case atStart => exact ⟨(0), sd_, H', ⟨Nat.le_refl _⟩, ⟨by (with_reducible repeat (first | apply Kd.R_alloc | apply Kd.R_drewN | apply Kd.R_drew)); exact pl.out⟩, ⟨bel_ HB.out⟩⟩
  case round =>
   clear H';try clear c2
   try clear c2b0
   try clear c2b1
   try clear p2
   obtain ⟨x4_1, rfl, HA, HK1, pf, HB⟩ := hrel;cases gk with
   | zero => exact absurd HA.out (by simp [tollref01_Name.l0])
   | succ k1 =>
    have H := HA.out;clear HA;simp only [tollref01_Name.l0] at H;by_cases c5 : x4_1 < (pb.length : Int)
    ·rw [if_pos c5] at H
     have c5b0 : decide (x4_1 < (pb.length : Int)) = true := decide_eq_true c5;clear c5;by_cases c6 : 0 ≤ x4_1
     ·rw [if_pos c6] at H
      have c6b0 : decide (0 ≤ x4_1) = true := decide_eq_true c6;clear c6;replace H := Option.bind_eq_some_iff.mp H;obtain ⟨ph, A70, H⟩ := H;replace H : (if ph = true then (tollref01_Name.l0 k1 pb (wrap64 (x4_1 + 1))) else (some false)) = some r := H;have A7 := Aside0.mk A70;clear A70;by_cases c8 : ph = true
      ·subst c8
       have H1 : (tollref01_Name.l0 k1 pb (wrap64 (x4_1 + 1))) = some r := by rw [if_pos rfl] at H; exact H
       clear H;have H := H1;clear H1;have H' := Aside0.mk H;clear H;obtain ⟨pt, pu, eo9⟩ := Kd.R_slice pf.out;subst eo9;have p197 : 0 ≤ (x4_1 : Int) := of_decide_eq_true as_;have q197 : x4_1 < (pb.length : Int) := of_decide_eq_true as_;obtain ⟨pm, e197, hx197_0⟩ := Kd.at_string (Kd.R_reads' pf.out).2.2 x4_1 p197 q197;cases e197;replace p197 := eq_true p197;replace q197 := eq_true q197;go_wp2_with (first | ((with_reducible refine gate_callee (f := 90) rfl ?_); refine goesL_ (some 20) rfl rfl Tryz.func90 kr_ rfl #[.string (rdOf ByteArray.empty pb x4_1)] rfl rl_ ?_; (with_reducible refine (tollref01_Label.calls k1 (rdOf ByteArray.empty pb x4_1) true _ A7.out).mono ?_); rintro e w' ⟨rfl, ⟨nd, rfl⟩⟩; refine ⟨_, rfl, ?_⟩))
       go_roundg k1
       case measure => have := HK1.out; omega
       case rel => exact ⟨(wrap64 (x4_1 + 1)), sd_, H', ⟨by have := HK1.out; omega⟩, ⟨by (with_reducible repeat (first | apply Kd.R_alloc | apply Kd.R_drewN | apply Kd.R_drew)); exact pf.out⟩, ⟨bel_ HB.out⟩⟩
      ·replace c8 := Bool.eq_false_iff.mpr c8
       subst c8;have H1 : (some false) = some r := by rw [if_neg (show ¬ (false = true) by decide)] at H; exact H
       clear H;have H := H1;clear H1;obtain rfl := Option.some.inj H;obtain ⟨pn, po, eo10⟩ := Kd.R_slice pf.out;subst eo10;have p197 : 0 ≤ (x4_1 : Int) := of_decide_eq_true as_;have q197 : x4_1 < (pb.length : Int) := of_decide_eq_true as_;obtain ⟨pm, e197, hx197_0⟩ := Kd.at_string (Kd.R_reads' pf.out).2.2 x4_1 p197 q197;cases e197;replace p197 := eq_true p197;replace q197 := eq_true q197;go_wp2_with (first | ((with_reducible refine gate_callee (f := 90) rfl ?_); refine goesL_ (some 20) rfl rfl Tryz.func90 kr_ rfl #[.string (rdOf ByteArray.empty pb x4_1)] rfl rl_ ?_; (with_reducible refine (tollref01_Label.calls k1 (rdOf ByteArray.empty pb x4_1) false _ A7.out).mono ?_); rintro e w' ⟨rfl, ⟨nd, rfl⟩⟩; refine ⟨_, rfl, ?_⟩))
       go_ret
       exact ⟨fi_, bel_ HB.out⟩
     ·rw [if_neg c6] at H
      exact absurd H (by simp)
    ·rw [if_neg c5] at H
     have c5b0 : decide (x4_1 < (pb.length : Int)) = false := decide_eq_false c5;clear c5;obtain rfl := Option.some.inj H;obtain ⟨pv, pw, eo11⟩ := Kd.R_slice pf.out;subst eo11;go_wp2
     go_ret
     exact ⟨fi_, bel_ HB.out⟩

/-! ### tollref02_Of: function 43 -/
mutual
def tollref02_Of.j3 : Nat → ByteArray → Option (ByteArray × Bool)
 | 0, _ => none
 | k + 1, x0 => if x0.toList = ([] : List UInt8) then (tollref02_Of.j4 k x0 false) else (if 0 ≤ (wrap64 ((x0.size : Int) - 1)) then (if (wrap64 ((x0.size : Int) - 1)) < (x0.size : Int) then (tollref02_Of.j4 k x0 ((bt x0 (wrap64 ((x0.size : Int) - 1))) == 46)) else (none)) else (none))
def tollref02_Of.j4 : Nat → ByteArray → Bool → Option (ByteArray × Bool)
 | 0, _, _ => none
 | k + 1, x0, x61 => if x61 = true then (if 0 ≤ (wrap64 ((x0.size : Int) - 1)) then (if (wrap64 ((x0.size : Int) - 1)) ≤ (x0.size : Int) then ((tollref01_Name.f k (x0.extract 0 ((wrap64 ((x0.size : Int) - 1)) : Int).toNat)).bind fun pc => (if pc = true then (some (x0.extract 0 ((wrap64 ((x0.size : Int) - 1)) : Int).toNat, true)) else (some ((⟨#[]⟩ : ByteArray), false)))) else (none)) else (none)) else ((tollref01_Name.f k x0).bind fun pg => (if pg = true then (some (x0, true)) else (some ((⟨#[]⟩ : ByteArray), false))))
def tollref02_Of.l0 : Nat → ByteArray → Int → Option (ByteArray × Bool)
 | 0, _, _ => none
 | k + 1, x0, x4 => if x4 ≤ 5 then (if (wrap64 ((wrap64 ((x0.size : Int) - x4)) - 1)) < 0 then (tollref02_Of.j1 k x0 x4 (wrap64 ((wrap64 ((x0.size : Int) - x4)) - 1)) true) else (if 0 ≤ (wrap64 ((wrap64 ((x0.size : Int) - x4)) - 1)) then (if (wrap64 ((wrap64 ((x0.size : Int) - x4)) - 1)) < (x0.size : Int) then (tollref02_Of.j1 k x0 x4 (wrap64 ((wrap64 ((x0.size : Int) - x4)) - 1)) ((bt x0 (wrap64 ((wrap64 ((x0.size : Int) - x4)) - 1))) != 58)) else (none)) else (none))) else (tollref02_Of.j3 k x0)
def tollref02_Of.j1 : Nat → ByteArray → Int → Int → Bool → Option (ByteArray × Bool)
 | 0, _, _, _, _ => none
 | k + 1, x0, x4, x5, x26 => if x26 = true then (tollref02_Of.l0 k x0 (wrap64 (x4 + 1))) else (tollref02_Of.l1 k x0 x4 x5 true (wrap64 (x5 + 1)))
def tollref02_Of.l1 : Nat → ByteArray → Int → Int → Bool → Int → Option (ByteArray × Bool)
 | 0, _, _, _, _, _ => none
 | k + 1, x0, x4, x5, x6, x7 => if x7 < (x0.size : Int) then (if x6 = true then (if 0 ≤ x7 then (if 48 ≤ (bt x0 x7) then (tollref02_Of.l1 k x0 x4 x5 (decide ((bt x0 x7) ≤ 57)) (wrap64 (x7 + 1))) else (tollref02_Of.l1 k x0 x4 x5 false (wrap64 (x7 + 1)))) else (none)) else (tollref02_Of.l1 k x0 x4 x5 false (wrap64 (x7 + 1)))) else (if x6 = true then (if 0 ≤ x5 then (if x5 ≤ (x0.size : Int) then (tollref02_Of.j3 k (x0.extract 0 (x5 : Int).toNat)) else (none)) else (none)) else (tollref02_Of.l0 k x0 (wrap64 (x4 + 1))))
end
def tollref02_Of.f (k : Nat) (a0 : ByteArray) : Option (ByteArray × Bool) := (tollref01_Fold.f k a0).bind fun pd => (tollref02_Of.l0 k pd 1)
theorem tollref02_Of.mono_l : ∀ k, (∀ y0, LeO (tollref02_Of.j3 k y0) (tollref02_Of.j3 (k + 1) y0)) ∧ (∀ y0 y1, LeO (tollref02_Of.j4 k y0 y1) (tollref02_Of.j4 (k + 1) y0 y1)) ∧ (∀ y0 y1, LeO (tollref02_Of.l0 k y0 y1) (tollref02_Of.l0 (k + 1) y0 y1)) ∧ (∀ y0 y1 y2 y3, LeO (tollref02_Of.j1 k y0 y1 y2 y3) (tollref02_Of.j1 (k + 1) y0 y1 y2 y3)) ∧ (∀ y0 y1 y2 y3 y4, LeO (tollref02_Of.l1 k y0 y1 y2 y3 y4) (tollref02_Of.l1 (k + 1) y0 y1 y2 y3 y4))
 | 0 => ⟨fun _ r h => by simp [tollref02_Of.j3] at h, fun _ _ r h => by simp [tollref02_Of.j4] at h, fun _ _ r h => by simp [tollref02_Of.l0] at h, fun _ _ _ _ r h => by simp [tollref02_Of.j1] at h, fun _ _ _ _ _ r h => by simp [tollref02_Of.l1] at h⟩
 | k + 1 => by
  obtain ⟨ih0, ih1, ih2, ih3, ih4⟩ := tollref02_Of.mono_l k;refine ⟨?_, ?_, ?_, ?_, ?_⟩
  ·intro y0
   unfold tollref02_Of.j3;repeat' first
   | (with_reducible exact ih0 _)
   | (with_reducible exact ih1 _ _)
   | (with_reducible exact ih2 _ _)
   | (with_reducible exact ih3 _ _ _ _)
   | (with_reducible exact ih4 _ _ _ _ _)
   | (with_reducible exact tollref01_Fold.mono _ _)
   | (with_reducible exact tollref01_Name.mono _ _)
   | (with_reducible exact LeO.refl _)
   | (with_reducible exact LeO.none _)
   | (with_reducible refine LeO.ite ?_ ?_)
   | (with_reducible refine LeO.bind ?_ (fun _ => ?_))
   | exact ih0 _
   | exact ih1 _ _
   | exact ih2 _ _
   | exact ih3 _ _ _ _
   | exact ih4 _ _ _ _ _
   | exact tollref01_Fold.mono _ _
   | exact tollref01_Name.mono _ _
   | exact LeO.none _
   | refine LeO.ite ?_ ?_
   | refine LeO.bind ?_ (fun _ => ?_)
  ·intro y0 y1
   unfold tollref02_Of.j4;repeat' first
   | (with_reducible exact ih0 _)
   | (with_reducible exact ih1 _ _)
   | (with_reducible exact ih2 _ _)
   | (with_reducible exact ih3 _ _ _ _)
   | (with_reducible exact ih4 _ _ _ _ _)
   | (with_reducible exact tollref01_Fold.mono _ _)
   | (with_reducible exact tollref01_Name.mono _ _)
   | (with_reducible exact LeO.refl _)
   | (with_reducible exact LeO.none _)
   | (with_reducible refine LeO.ite ?_ ?_)
   | (with_reducible refine LeO.bind ?_ (fun _ => ?_))
   | exact ih0 _
   | exact ih1 _ _
   | exact ih2 _ _
   | exact ih3 _ _ _ _
   | exact ih4 _ _ _ _ _
   | exact tollref01_Fold.mono _ _
   | exact tollref01_Name.mono _ _
   | exact LeO.none _
   | refine LeO.ite ?_ ?_
   | refine LeO.bind ?_ (fun _ => ?_)
  ·intro y0 y1
   unfold tollref02_Of.l0;repeat' first
   | (with_reducible exact ih0 _)
   | (with_reducible exact ih1 _ _)
   | (with_reducible exact ih2 _ _)
   | (with_reducible exact ih3 _ _ _ _)
   | (with_reducible exact ih4 _ _ _ _ _)
   | (with_reducible exact tollref01_Fold.mono _ _)
   | (with_reducible exact tollref01_Name.mono _ _)
   | (with_reducible exact LeO.refl _)
   | (with_reducible exact LeO.none _)
   | (with_reducible refine LeO.ite ?_ ?_)
   | (with_reducible refine LeO.bind ?_ (fun _ => ?_))
   | exact ih0 _
   | exact ih1 _ _
   | exact ih2 _ _
   | exact ih3 _ _ _ _
   | exact ih4 _ _ _ _ _
   | exact tollref01_Fold.mono _ _
   | exact tollref01_Name.mono _ _
   | exact LeO.none _
   | refine LeO.ite ?_ ?_
   | refine LeO.bind ?_ (fun _ => ?_)
  ·intro y0 y1 y2 y3
   unfold tollref02_Of.j1;repeat' first
   | (with_reducible exact ih0 _)
   | (with_reducible exact ih1 _ _)
   | (with_reducible exact ih2 _ _)
   | (with_reducible exact ih3 _ _ _ _)
   | (with_reducible exact ih4 _ _ _ _ _)
   | (with_reducible exact tollref01_Fold.mono _ _)
   | (with_reducible exact tollref01_Name.mono _ _)
   | (with_reducible exact LeO.refl _)
   | (with_reducible exact LeO.none _)
   | (with_reducible refine LeO.ite ?_ ?_)
   | (with_reducible refine LeO.bind ?_ (fun _ => ?_))
   | exact ih0 _
   | exact ih1 _ _
   | exact ih2 _ _
   | exact ih3 _ _ _ _
   | exact ih4 _ _ _ _ _
   | exact tollref01_Fold.mono _ _
   | exact tollref01_Name.mono _ _
   | exact LeO.none _
   | refine LeO.ite ?_ ?_
   | refine LeO.bind ?_ (fun _ => ?_)
  ·intro y0 y1 y2 y3 y4
   unfold tollref02_Of.l1;repeat' first
   | (with_reducible exact ih0 _)
   | (with_reducible exact ih1 _ _)
   | (with_reducible exact ih2 _ _)
   | (with_reducible exact ih3 _ _ _ _)
   | (with_reducible exact ih4 _ _ _ _ _)
   | (with_reducible exact tollref01_Fold.mono _ _)
   | (with_reducible exact tollref01_Name.mono _ _)
   | (with_reducible exact LeO.refl _)
   | (with_reducible exact LeO.none _)
   | (with_reducible refine LeO.ite ?_ ?_)
   | (with_reducible refine LeO.bind ?_ (fun _ => ?_))
   | exact ih0 _
   | exact ih1 _ _
   | exact ih2 _ _
   | exact ih3 _ _ _ _
   | exact ih4 _ _ _ _ _
   | exact tollref01_Fold.mono _ _
   | exact tollref01_Name.mono _ _
   | exact LeO.none _
   | refine LeO.ite ?_ ?_
   | refine LeO.bind ?_ (fun _ => ?_)
theorem tollref02_Of.mono : ∀ a0 k, LeO (tollref02_Of.f k a0) (tollref02_Of.f (k + 1) a0) := by
 intro a0 k;obtain ⟨ih0, ih1, ih2, ih3, ih4⟩ := tollref02_Of.mono_l k;unfold tollref02_Of.f;repeat' first
   | (with_reducible exact ih0 _)
   | (with_reducible exact ih1 _ _)
   | (with_reducible exact ih2 _ _)
   | (with_reducible exact ih3 _ _ _ _)
   | (with_reducible exact ih4 _ _ _ _ _)
   | (with_reducible exact tollref01_Fold.mono _ _)
   | (with_reducible exact tollref01_Name.mono _ _)
   | (with_reducible exact LeO.refl _)
   | (with_reducible exact LeO.none _)
   | (with_reducible refine LeO.ite ?_ ?_)
   | (with_reducible refine LeO.bind ?_ (fun _ => ?_))
   | exact ih0 _
   | exact ih1 _ _
   | exact ih2 _ _
   | exact ih3 _ _ _ _
   | exact ih4 _ _ _ _ _
   | exact tollref01_Fold.mono _ _
   | exact tollref01_Name.mono _ _
   | exact LeO.none _
   | refine LeO.ite ?_ ?_
   | refine LeO.bind ?_ (fun _ => ?_)
set_option maxHeartbeats 8000000 in
set_option maxRecDepth 100000 in
theorem tollref02_Of.calls (k : Nat) (a0 : ByteArray) (r1 : ByteArray) (r2 : Bool) (w : World) (h : tollref02_Of.f k a0 = some (r1, r2)) :
  Calls Tryz.prog 43 #[.string a0] w fun e w' => e = .returned (.tuple #[.string r1, .bool r2]) ∧ Below w.heap.size w w' := by
 have HB := am_ (Below.refl w.heap.size w);have H : ((tollref01_Fold.f k a0).bind fun pd => (tollref02_Of.l0 k pd 1)) = some (r1, r2) := h;clear h;replace H := Option.bind_eq_some_iff.mp H;obtain ⟨pd, A20, H⟩ := H;replace H : (tollref02_Of.l0 k pd 1) = some (r1, r2) := H;have A2 := Aside0.mk A20;clear A20;have HC3 := Aside0.mk H;clear H;go_enter Tryz.func43, Tryz.ntmps43
 go_upto_block 0 with (first | ((with_reducible refine gate_callee (f := 70) rfl ?_); refine goesL_ (some 9) rfl rfl Tryz.func70 kr_ rfl #[.string a0] rfl rl_ ?_; (with_reducible refine (tollref01_Fold.calls k a0 pd _ A2.out).mono ?_); rintro e w4 ⟨rfl, hb⟩; refine ⟨_, rfl, ?_⟩; have n0_ := am_ (below_step (bel_ HB.out) hb); clear HB; have HB := n0_; clear n0_; (try clear hb); (try clear hb2); (try clear hk); (try clear hi)))
 (try simp only [Act.put, List.setIfInBounds_toArray, List.set_cons_zero, List.set_cons_succ]);go_cut [0] (fun v0 wc => ∃ (kq : Nat) (x0_2 : ByteArray), v0 = .string x0_2 ∧ Aside0 (tollref02_Of.j3 kq x0_2 = some (r1, r2)) ∧ Aside0 (kq ≤ k) ∧ Aside0 (Below w.heap.size w wc))
 case first =>
  have H := HC3.out;clear HC3;have H' := Aside0.mk H;clear H;go_wp2
  go_loopg [0, 4] k (fun kq v0 v4 w' => ∃ (x0_1 : ByteArray) (x4_1 : Int), v0 = .string x0_1 ∧ v4 = .int .i64 x4_1 ∧ Aside0 (tollref02_Of.l0 kq x0_1 x4_1 = some (r1, r2)) ∧ Aside0 (kq ≤ k) ∧ Aside0 (Below w.heap.size w w'))
  case atStart => exact ⟨(pd), (1), sd_, sd_, H', ⟨Nat.le_refl _⟩, ⟨bel_ HB.out⟩⟩
  case round =>
   clear H';try clear p2
   try clear c4
   obtain ⟨x0_1, x4_1, rfl, rfl, HA, HK1, HB⟩ := hrel;cases gk with
   | zero => exact absurd HA.out (by simp [tollref02_Of.l0])
   | succ k1 =>
    have H := HA.out;clear HA;simp only [tollref02_Of.l0] at H;by_cases c5 : x4_1 ≤ 5
    ·rw [if_pos c5] at H
     have c5b0 : decide (x4_1 ≤ 5) = true := decide_eq_true c5;clear c5;(first | rw [c5b0] | rw [c5b1] | rw [c5b2] | (simp only [i64_w, i32_w]; rw [c5b0]) | skip);have HC6 := Aside0.mk H;clear H;go_upto_region 6 with (fail)
     go_cut [26] (fun pp wc => ∃ (kq : Nat) (x26_5 : Bool), pp = .bool x26_5 ∧ Aside0 (tollref02_Of.j1 kq x0_1 x4_1 (wrap64 ((wrap64 ((x0_1.size : Int) - x4_1)) - 1)) x26_5 = some (r1, r2)) ∧ Aside0 (kq ≤ k1) ∧ Aside0 (Below w.heap.size w wc))
     case first =>
      have H := HC6.out;clear HC6;by_cases c7 : (wrap64 ((wrap64 ((x0_1.size : Int) - x4_1)) - 1)) < 0
      ·rw [if_pos c7] at H
       have c7b0 : decide ((wrap64 ((wrap64 ((x0_1.size : Int) - x4_1)) - 1)) < 0) = true := decide_eq_true c7;clear c7;(first | rw [c7b0] | rw [c7b1] | rw [c7b2] | (simp only [i64_w, i32_w]; rw [c7b0]) | skip);have H' := Aside0.mk H;clear H;go_wp2
       go_meet
       case rel => exact ⟨_, (true), sd_, H', ⟨by have := HK1.out; first | omega | exact Nat.le_refl _⟩, ⟨bel_ HB.out⟩⟩
      ·rw [if_neg c7] at H
       have c7b0 : decide ((wrap64 ((wrap64 ((x0_1.size : Int) - x4_1)) - 1)) < 0) = false := decide_eq_false c7;clear c7;(first | rw [c7b0] | rw [c7b1] | rw [c7b2] | (simp only [i64_w, i32_w]; rw [c7b0]) | skip);obtain ⟨ji8, hji8⟩ : ∃ j_ : Int, (wrap64 ((wrap64 ((x0_1.size : Int) - x4_1)) - 1)) = j_ := ⟨_, rfl⟩;replace H : (if 0 ≤ (ji8) then (if (ji8) < (x0_1.size : Int) then (tollref02_Of.j1 k1 x0_1 x4_1 ji8 ((bt x0_1 (ji8)) != 58)) else (none)) else (none)) = some (r1, r2) := by first | (rw [hji8] at H; exact H) | (simp only [hji8] at H ⊢; exact H)
       (try rw [hji8] at c7b0);have hji8w : (IntKind.i64.wrap ((wrap64 ((x0_1.size : Int) - x4_1)) - 1)) = ji8 := (i64_w _).trans hji8;by_cases c9 : 0 ≤ (ji8)
       ·rw [if_pos c9] at H
        have c9b0 : decide (0 ≤ (ji8)) = true := decide_eq_true c9;clear c9;by_cases c10 : (ji8) < (x0_1.size : Int)
        ·rw [if_pos c10] at H
         have c10b0 : decide ((ji8) < (x0_1.size : Int)) = true := decide_eq_true c10;clear c10;have H' := Aside0.mk H;clear H;have p11 : 0 ≤ ((ji8) : Int) := of_decide_eq_true as_;have q11 : (ji8) < (x0_1.size : Int) := of_decide_eq_true as_;have hx11 := bt_at x0_1 (ji8);replace p11 := eq_true p11;replace q11 := eq_true q11;go_wp2
         go_meet
         case rel => exact ⟨_, (((bt x0_1 (ji8)) != 58)), (by first | rfl | (simp; done) | (simp only [← hji8] <;> (first | rfl | simp)) | (simp [*]; done)), (by first | exact H' | (simp only [hji8]; exact H')), ⟨by have := HK1.out; first | omega | exact Nat.le_refl _⟩, ⟨bel_ HB.out⟩⟩
        ·rw [if_neg c10] at H
         exact absurd H (by simp)
       ·rw [if_neg c9] at H
        exact absurd H (by simp)
     case rest =>
      clear HC6;try clear c1
      try clear p1
      try clear q1
      try clear hx1
      try clear p2
      try clear c4
      try clear c5
      try clear c5b0
      try clear c5b1
      try clear c5b2
      try clear p6
      try clear c7
      try clear c7b0
      try clear c7b1
      try clear c7b2
      try clear c9
      try clear c9b0
      try clear c10
      try clear c10b0
      try clear p11
      try clear q11
      try clear hx11
      try clear p11
      try clear p2
      try clear q11
      obtain ⟨kq, x26_5, rfl, HA, HJ5, HB⟩ := hcut;cases kq with
      | zero => exact absurd HA.out (by simp [tollref02_Of.j1])
      | succ kj5 =>
       have H := HA.out;clear HA;simp only [tollref02_Of.j1] at H;by_cases c12 : x26_5 = true
       ·subst c12
        have H1 : (tollref02_Of.l0 kj5 x0_1 (wrap64 (x4_1 + 1))) = some (r1, r2) := by rw [if_pos rfl] at H; exact H
        clear H;have H := H1;clear H1;have H' := Aside0.mk H;clear H;go_wp2
        go_roundg kj5
        case measure => have := HK1.out; have := HJ5.out; omega
        case rel => exact ⟨(x0_1), (wrap64 (x4_1 + 1)), sd_, sd_, H', ⟨by have := HK1.out; have := HJ5.out; omega⟩, ⟨bel_ HB.out⟩⟩
       ·replace c12 := Bool.eq_false_iff.mpr c12
        subst c12;have H1 : (tollref02_Of.l1 kj5 x0_1 x4_1 (wrap64 ((wrap64 ((x0_1.size : Int) - x4_1)) - 1)) true (wrap64 ((wrap64 ((wrap64 ((x0_1.size : Int) - x4_1)) - 1)) + 1))) = some (r1, r2) := by rw [if_neg (show ¬ (false = true) by decide)] at H; exact H
        clear H;have H := H1;clear H1;have H' := Aside0.mk H;clear H;go_wp2
        go_loopg [6, 7] kj5 (fun kq v6 v7 w' => ∃ (x6_3 : Bool) (x7_3 : Int), v6 = .bool x6_3 ∧ v7 = .int .i64 x7_3 ∧ Aside0 (tollref02_Of.l1 kq x0_1 x4_1 (wrap64 ((wrap64 ((x0_1.size : Int) - x4_1)) - 1)) x6_3 x7_3 = some (r1, r2)) ∧ Aside0 (kq ≤ kj5) ∧ Aside0 (Below w.heap.size w w'))
        case atStart => exact ⟨(true), (wrap64 ((wrap64 ((wrap64 ((x0_1.size : Int) - x4_1)) - 1)) + 1)), sd_, sd_, H', ⟨Nat.le_refl _⟩, ⟨bel_ HB.out⟩⟩
        case round =>
         clear H';try clear c1
         try clear p1
         try clear q1
         try clear hx1
         try clear p2
         try clear c4
         try clear c5
         try clear c5b0
         try clear c5b1
         try clear c5b2
         try clear p6
         try clear c7
         try clear c7b0
         try clear c7b1
         try clear c7b2
         try clear c9
         try clear c9b0
         try clear c10
         try clear c10b0
         try clear p11
         try clear q11
         try clear hx11
         try clear c12
         try clear p1
         try clear p11
         try clear p2
         try clear p6
         try clear q1
         try clear q11
         obtain ⟨x6_3, x7_3, rfl, rfl, HA, HK3, HB⟩ := hrel;cases gk with
         | zero => exact absurd HA.out (by simp [tollref02_Of.l1])
         | succ k3 =>
          have H := HA.out;clear HA;simp only [tollref02_Of.l1] at H;by_cases c13 : x7_3 < (x0_1.size : Int)
          ·rw [if_pos c13] at H
           have c13b0 : decide (x7_3 < (x0_1.size : Int)) = true := decide_eq_true c13;clear c13;by_cases c14 : x6_3 = true
           ·subst c14
            have H1 : (if 0 ≤ x7_3 then (if 48 ≤ (bt x0_1 x7_3) then (tollref02_Of.l1 k3 x0_1 x4_1 (wrap64 ((wrap64 ((x0_1.size : Int) - x4_1)) - 1)) (decide ((bt x0_1 x7_3) ≤ 57)) (wrap64 (x7_3 + 1))) else (tollref02_Of.l1 k3 x0_1 x4_1 (wrap64 ((wrap64 ((x0_1.size : Int) - x4_1)) - 1)) false (wrap64 (x7_3 + 1)))) else (none)) = some (r1, r2) := by rw [if_pos rfl] at H; exact H
            clear H;have H := H1;clear H1;by_cases c15 : 0 ≤ x7_3
            ·rw [if_pos c15] at H
             have c15b0 : decide (0 ≤ x7_3) = true := decide_eq_true c15;clear c15;by_cases c17 : 48 ≤ (bt x0_1 x7_3)
             ·rw [if_pos c17] at H
              have c17b0 : decide (48 ≤ (bt x0_1 x7_3)) = true := decide_eq_true c17;clear c17;have H' := Aside0.mk H;clear H;have p16 : 0 ≤ (x7_3 : Int) := of_decide_eq_true as_;have q16 : x7_3 < (x0_1.size : Int) := of_decide_eq_true as_;have hx16 := bt_at x0_1 x7_3;replace p16 := eq_true p16;replace q16 := eq_true q16;have p18 : 0 ≤ (x7_3 : Int) := of_decide_eq_true as_;have q18 : x7_3 < (x0_1.size : Int) := of_decide_eq_true as_;have hx18 := bt_at x0_1 x7_3;replace p18 := eq_true p18;replace q18 := eq_true q18;go_wp2
              go_roundg k3
              case measure => have := HK1.out; have := HJ5.out; have := HK3.out; omega
              case rel => exact ⟨(decide ((bt x0_1 x7_3) ≤ 57)), (wrap64 (x7_3 + 1)), sd_, sd_, H', ⟨by have := HK1.out; have := HJ5.out; have := HK3.out; omega⟩, ⟨bel_ HB.out⟩⟩
             ·rw [if_neg c17] at H
              have c17b0 : decide (48 ≤ (bt x0_1 x7_3)) = false := decide_eq_false c17;clear c17;have H' := Aside0.mk H;clear H;have p16 : 0 ≤ (x7_3 : Int) := of_decide_eq_true as_;have q16 : x7_3 < (x0_1.size : Int) := of_decide_eq_true as_;have hx16 := bt_at x0_1 x7_3;replace p16 := eq_true p16;replace q16 := eq_true q16;go_wp2
              go_roundg k3
              case measure => have := HK1.out; have := HJ5.out; have := HK3.out; omega
              case rel => exact ⟨(false), (wrap64 (x7_3 + 1)), sd_, sd_, H', ⟨by have := HK1.out; have := HJ5.out; have := HK3.out; omega⟩, ⟨bel_ HB.out⟩⟩
            ·rw [if_neg c15] at H
             exact absurd H (by simp)
           ·replace c14 := Bool.eq_false_iff.mpr c14
            subst c14;have H1 : (tollref02_Of.l1 k3 x0_1 x4_1 (wrap64 ((wrap64 ((x0_1.size : Int) - x4_1)) - 1)) false (wrap64 (x7_3 + 1))) = some (r1, r2) := by rw [if_neg (show ¬ (false = true) by decide)] at H; exact H
            clear H;have H := H1;clear H1;have H' := Aside0.mk H;clear H;go_wp2
            go_roundg k3
            case measure => have := HK1.out; have := HJ5.out; have := HK3.out; omega
            case rel => exact ⟨(false), (wrap64 (x7_3 + 1)), sd_, sd_, H', ⟨by have := HK1.out; have := HJ5.out; have := HK3.out; omega⟩, ⟨bel_ HB.out⟩⟩
          ·rw [if_neg c13] at H
           have c13b0 : decide (x7_3 < (x0_1.size : Int)) = false := decide_eq_false c13;clear c13;by_cases c19 : x6_3 = true
           ·subst c19
            have H1 : (if 0 ≤ (wrap64 ((wrap64 ((x0_1.size : Int) - x4_1)) - 1)) then (if (wrap64 ((wrap64 ((x0_1.size : Int) - x4_1)) - 1)) ≤ (x0_1.size : Int) then (tollref02_Of.j3 k3 (x0_1.extract 0 ((wrap64 ((wrap64 ((x0_1.size : Int) - x4_1)) - 1)) : Int).toNat)) else (none)) else (none)) = some (r1, r2) := by rw [if_pos rfl] at H; exact H
            clear H;have H := H1;clear H1;obtain ⟨ji20, hji20⟩ : ∃ j_ : Int, (wrap64 ((wrap64 ((x0_1.size : Int) - x4_1)) - 1)) = j_ := ⟨_, rfl⟩;replace H : (if 0 ≤ (ji20) then (if (ji20) ≤ (x0_1.size : Int) then (tollref02_Of.j3 k3 (x0_1.extract 0 ((ji20) : Int).toNat)) else (none)) else (none)) = some (r1, r2) := by first | (rw [hji20] at H; exact H) | (simp only [hji20] at H ⊢; exact H)
            have hji20w : (IntKind.i64.wrap ((wrap64 ((x0_1.size : Int) - x4_1)) - 1)) = ji20 := (i64_w _).trans hji20;by_cases c21 : 0 ≤ (ji20)
            ·rw [if_pos c21] at H
             have c21b0 := eq_true c21;have c21b1 : decide (0 ≤ (ji20)) = true := decide_eq_true c21;clear c21;by_cases c22 : (ji20) ≤ (x0_1.size : Int)
             ·rw [if_pos c22] at H
              have c22b0 := eq_true c22;have c22b1 : decide ((ji20) ≤ (x0_1.size : Int)) = true := decide_eq_true c22;clear c22;have H' := Aside0.mk H;clear H;go_wp2
              go_meet
              case rel => exact ⟨_, (x0_1.extract 0 ((ji20) : Int).toNat), (by first | rfl | (simp; done) | (simp only [← hji20] <;> (first | rfl | simp)) | (simp [*]; done)), (by first | exact H' | (simp only [hji20]; exact H')), ⟨by have := HK1.out; have := HJ5.out; have := HK3.out; first | omega | exact Nat.le_refl _⟩, ⟨bel_ HB.out⟩⟩
             ·rw [if_neg c22] at H
              exact absurd H (by simp)
            ·rw [if_neg c21] at H
             exact absurd H (by simp)
           ·replace c19 := Bool.eq_false_iff.mpr c19
            subst c19;have H1 : (tollref02_Of.l0 k3 x0_1 (wrap64 (x4_1 + 1))) = some (r1, r2) := by rw [if_neg (show ¬ (false = true) by decide)] at H; exact H
            clear H;have H := H1;clear H1;have H' := Aside0.mk H;clear H;go_wp2
            go_roundg k3
            case measure => have := HK1.out; have := HJ5.out; have := HK3.out; omega
            case rel => exact ⟨(x0_1), (wrap64 (x4_1 + 1)), sd_, sd_, H', ⟨by have := HK1.out; have := HJ5.out; have := HK3.out; omega⟩, ⟨bel_ HB.out⟩⟩
    ·rw [if_neg c5] at H
     have c5b0 : decide (x4_1 ≤ 5) = false := decide_eq_false c5;clear c5;(first | rw [c5b0] | rw [c5b1] | rw [c5b2] | (simp only [i64_w, i32_w]; rw [c5b0]) | skip);have H' := Aside0.mk H;clear H;go_wp2
     go_meet
     case rel => exact ⟨_, (x0_1), sd_, H', ⟨by have := HK1.out; first | omega | exact Nat.le_refl _⟩, ⟨bel_ HB.out⟩⟩
 case rest =>
  clear HC3;try clear c1
  try clear p1
  try clear q1
  try clear hx1
  try clear c2
  try clear p2
  try clear c4
  try clear c5
  try clear c5b0
  try clear c5b1
  try clear c5b2
  try clear p6
  try clear c7
  try clear c7b0
  try clear c7b1
  try clear c7b2
  try clear c9
  try clear c9b0
  try clear c10
  try clear c10b0
  try clear p11
  try clear q11
  try clear hx11
  try clear c12
  try clear c13
  try clear c13b0
  try clear c14
  try clear c15
  try clear c15b0
  try clear p16
  try clear q16
  try clear hx16
  try clear c17
  try clear c17b0
  try clear p18
  try clear q18
  try clear hx18
  try clear c19
  try clear c21
  try clear c21b0
  try clear c21b1
  try clear c22
  try clear c22b0
  try clear c22b1
  try clear p1
  try clear p11
  try clear p16
  try clear p18
  try clear p2
  try clear p6
  try clear q1
  try clear q11
  try clear q16
  try clear q18
  obtain ⟨kq, x0_2, rfl, HA, HJ2, HB⟩ := hcut;cases kq with
  | zero => exact absurd HA.out (by simp [tollref02_Of.j3])
  | succ kj2 =>
   have H := HA.out;clear HA;simp only [tollref02_Of.j3] at H;have HC23 := Aside0.mk H;clear H;go_upto_region 14 with (fail)
   go_cut [61] (fun pq wc => ∃ (kq : Nat) (x61_22 : Bool), pq = .bool x61_22 ∧ Aside0 (tollref02_Of.j4 kq x0_2 x61_22 = some (r1, r2)) ∧ Aside0 (kq ≤ kj2) ∧ Aside0 (Below w.heap.size w wc))
   case first =>
    have H := HC23.out;clear HC23;by_cases c24 : x0_2.toList = ([] : List UInt8)
    ·rw [if_pos c24] at H
     have c24b0 : (x0_2.toList == ([] : List UInt8)) = true := beq_iff_eq.mpr c24;have c24b1 : (x0_2.toList != ([] : List UInt8)) = false := bne_eq_false_iff_eq.mpr c24;clear c24;(first | rw [c24b0] | rw [c24b1] | rw [c24b2] | (simp only [i64_w, i32_w]; rw [c24b0]) | skip);have H' := Aside0.mk H;clear H;go_wp2
     go_meet
     case rel => exact ⟨_, (false), sd_, H', ⟨by have := HJ2.out; first | omega | exact Nat.le_refl _⟩, ⟨bel_ HB.out⟩⟩
    ·rw [if_neg c24] at H
     have c24b0 : (x0_2.toList == ([] : List UInt8)) = false := beq_eq_false_iff_ne.mpr c24;have c24b1 : (x0_2.toList != ([] : List UInt8)) = true := bne_iff_ne.mpr c24;(first | rw [c24b0] | rw [c24b1] | rw [c24b2] | (simp only [i64_w, i32_w]; rw [c24b0]) | skip);obtain ⟨ji25, hji25⟩ : ∃ j_ : Int, (wrap64 ((x0_2.size : Int) - 1)) = j_ := ⟨_, rfl⟩;replace H : (if 0 ≤ (ji25) then (if (ji25) < (x0_2.size : Int) then (tollref02_Of.j4 kj2 x0_2 ((bt x0_2 (ji25)) == 46)) else (none)) else (none)) = some (r1, r2) := by first | (rw [hji25] at H; exact H) | (simp only [hji25] at H ⊢; exact H)
     have hji25w : (IntKind.i64.wrap ((x0_2.size : Int) - 1)) = ji25 := (i64_w _).trans hji25;by_cases c26 : 0 ≤ (ji25)
     ·rw [if_pos c26] at H
      have c26b0 : decide (0 ≤ (ji25)) = true := decide_eq_true c26;clear c26;by_cases c27 : (ji25) < (x0_2.size : Int)
      ·rw [if_pos c27] at H
       have c27b0 : decide ((ji25) < (x0_2.size : Int)) = true := decide_eq_true c27;clear c27;have H' := Aside0.mk H;clear H;have p28 : 0 ≤ ((ji25) : Int) := of_decide_eq_true as_;have q28 : (ji25) < (x0_2.size : Int) := of_decide_eq_true as_;have hx28 := bt_at x0_2 (ji25);replace p28 := eq_true p28;replace q28 := eq_true q28;go_wp2
       go_meet
       case rel => exact ⟨_, (((bt x0_2 (ji25)) == 46)), (by first | rfl | (simp; done) | (simp only [← hji25] <;> (first | rfl | simp)) | (simp [*]; done)), (by first | exact H' | (simp only [hji25]; exact H')), ⟨by have := HJ2.out; first | omega | exact Nat.le_refl _⟩, ⟨bel_ HB.out⟩⟩
      ·rw [if_neg c27] at H
       exact absurd H (by simp)
     ·rw [if_neg c26] at H
      exact absurd H (by simp)
   case rest =>
    clear HC23;try clear c1
    try clear p1
    try clear q1
    try clear hx1
    try clear c2
    try clear p2
    try clear q2
    try clear hx2
    try clear c4
    try clear c5
    try clear c5b0
    try clear c5b1
    try clear c5b2
    try clear p6
    try clear c7
    try clear c7b0
    try clear c7b1
    try clear c7b2
    try clear c9
    try clear c9b0
    try clear c10
    try clear c10b0
    try clear p11
    try clear q11
    try clear hx11
    try clear c12
    try clear c13
    try clear c13b0
    try clear c14
    try clear c15
    try clear c15b0
    try clear p16
    try clear q16
    try clear hx16
    try clear c17
    try clear c17b0
    try clear p18
    try clear q18
    try clear hx18
    try clear c19
    try clear c21
    try clear c21b0
    try clear c21b1
    try clear c22
    try clear c22b0
    try clear c22b1
    try clear c24
    try clear c24b0
    try clear c24b1
    try clear c24b2
    try clear c26
    try clear c26b0
    try clear c27
    try clear c27b0
    try clear p28
    try clear q28
    try clear hx28
    try clear p1
    try clear p11
    try clear p16
    try clear p18
    try clear p2
    try clear p28
    try clear p6
    try clear q1
    try clear q11
    try clear q16
    try clear q18
    try clear q28
    obtain ⟨kq, x61_22, rfl, HA, HJ22, HB⟩ := hcut;cases kq with
    | zero => exact absurd HA.out (by simp [tollref02_Of.j4])
    | succ kj22 =>
     have H := HA.out;clear HA;simp only [tollref02_Of.j4] at H;by_cases c29 : x61_22 = true
     ·subst c29
      have H1 : (if 0 ≤ (wrap64 ((x0_2.size : Int) - 1)) then (if (wrap64 ((x0_2.size : Int) - 1)) ≤ (x0_2.size : Int) then ((tollref01_Name.f kj22 (x0_2.extract 0 ((wrap64 ((x0_2.size : Int) - 1)) : Int).toNat)).bind fun pc => (if pc = true then (some (x0_2.extract 0 ((wrap64 ((x0_2.size : Int) - 1)) : Int).toNat, true)) else (some ((⟨#[]⟩ : ByteArray), false)))) else (none)) else (none)) = some (r1, r2) := by rw [if_pos rfl] at H; exact H
      clear H;have H := H1;clear H1;obtain ⟨ji30, hji30⟩ : ∃ j_ : Int, (wrap64 ((x0_2.size : Int) - 1)) = j_ := ⟨_, rfl⟩;replace H : (if 0 ≤ (ji30) then (if (ji30) ≤ (x0_2.size : Int) then ((tollref01_Name.f kj22 (x0_2.extract 0 ((ji30) : Int).toNat)).bind fun pc => (if pc = true then (some (x0_2.extract 0 ((ji30) : Int).toNat, true)) else (some ((⟨#[]⟩ : ByteArray), false)))) else (none)) else (none)) = some (r1, r2) := by first | (rw [hji30] at H; exact H) | (simp only [hji30] at H ⊢; exact H)
      have hji30w : (IntKind.i64.wrap ((x0_2.size : Int) - 1)) = ji30 := (i64_w _).trans hji30;by_cases c31 : 0 ≤ (ji30)
      ·rw [if_pos c31] at H
       have c31b0 := eq_true c31;have c31b1 : decide (0 ≤ (ji30)) = true := decide_eq_true c31;clear c31;by_cases c32 : (ji30) ≤ (x0_2.size : Int)
       ·rw [if_pos c32] at H
        have c32b0 := eq_true c32;have c32b1 : decide ((ji30) ≤ (x0_2.size : Int)) = true := decide_eq_true c32;clear c32;replace H := Option.bind_eq_some_iff.mp H;obtain ⟨pc, A330, H⟩ := H;replace H : (if pc = true then (some (x0_2.extract 0 ((ji30) : Int).toNat, true)) else (some ((⟨#[]⟩ : ByteArray), false))) = some (r1, r2) := H;have A33 := Aside0.mk A330;clear A330;by_cases c34 : pc = true
        ·subst c34
         have H1 : (some (x0_2.extract 0 ((ji30) : Int).toNat, true)) = some (r1, r2) := by rw [if_pos rfl] at H; exact H
         clear H;have H := H1;clear H1;simp only [Option.some.injEq, Prod.mk.injEq] at H;obtain ⟨rfl, rfl⟩ := H;go_wp2_with (first | ((with_reducible refine gate_callee (f := 71) rfl ?_); refine goesL_ (some 68) rfl rfl Tryz.func71 kr_ rfl #[.string (x0_2.extract 0 ((ji30) : Int).toNat)] rfl (by (try simp only [List.map_toArray, List.map_cons, List.map_nil]); first | done | (simp only [hji30]; rfl) | rfl | (simp only [List.length_drop, List.length_take]; rfl)) ?_; (with_reducible refine (tollref01_Name.calls kj22 (x0_2.extract 0 ((ji30) : Int).toNat) true _ A33.out).mono ?_); rintro e w35 ⟨rfl, hb⟩; refine ⟨_, rfl, ?_⟩; have n0_ := am_ (below_step (bel_ HB.out) hb); clear HB; have HB := n0_; clear n0_; (try clear hb); (try clear hb2); (try clear hk); (try clear hi)))
         go_ret2
         exact ⟨by first | rfl | (simp [errW_none, errW_some] <;> rfl) | (simp only [← hji30]; first | rfl | (simp [errW_none, errW_some] <;> rfl)) | (simp [*, errW_none, errW_some] <;> rfl), bel_ HB.out⟩
        ·replace c34 := Bool.eq_false_iff.mpr c34
         subst c34;have H1 : (some ((⟨#[]⟩ : ByteArray), false)) = some (r1, r2) := by rw [if_neg (show ¬ (false = true) by decide)] at H; exact H
         clear H;have H := H1;clear H1;simp only [Option.some.injEq, Prod.mk.injEq] at H;obtain ⟨rfl, rfl⟩ := H;go_wp2_with (first | ((with_reducible refine gate_callee (f := 71) rfl ?_); refine goesL_ (some 68) rfl rfl Tryz.func71 kr_ rfl #[.string (x0_2.extract 0 ((ji30) : Int).toNat)] rfl (by (try simp only [List.map_toArray, List.map_cons, List.map_nil]); first | done | (simp only [hji30]; rfl) | rfl | (simp only [List.length_drop, List.length_take]; rfl)) ?_; (with_reducible refine (tollref01_Name.calls kj22 (x0_2.extract 0 ((ji30) : Int).toNat) false _ A33.out).mono ?_); rintro e w36 ⟨rfl, hb⟩; refine ⟨_, rfl, ?_⟩; have n0_ := am_ (below_step (bel_ HB.out) hb); clear HB; have HB := n0_; clear n0_; (try clear hb); (try clear hb2); (try clear hk); (try clear hi)))
         go_ret2
         exact ⟨by first | rfl | (simp [errW_none, errW_some] <;> rfl) | (simp only [← hji30]; first | rfl | (simp [errW_none, errW_some] <;> rfl)) | (simp [*, errW_none, errW_some] <;> rfl), bel_ HB.out⟩
       ·rw [if_neg c32] at H
        exact absurd H (by simp)
      ·rw [if_neg c31] at H
       exact absurd H (by simp)
     ·replace c29 := Bool.eq_false_iff.mpr c29
      subst c29;have H1 : ((tollref01_Name.f kj22 x0_2).bind fun pg => (if pg = true then (some (x0_2, true)) else (some ((⟨#[]⟩ : ByteArray), false)))) = some (r1, r2) := by rw [if_neg (show ¬ (false = true) by decide)] at H; exact H
      clear H;have H := H1;clear H1;replace H := Option.bind_eq_some_iff.mp H;obtain ⟨pg, A370, H⟩ := H;replace H : (if pg = true then (some (x0_2, true)) else (some ((⟨#[]⟩ : ByteArray), false))) = some (r1, r2) := H;have A37 := Aside0.mk A370;clear A370;by_cases c38 : pg = true
      ·subst c38
       have H1 : (some (x0_2, true)) = some (r1, r2) := by rw [if_pos rfl] at H; exact H
       clear H;have H := H1;clear H1;simp only [Option.some.injEq, Prod.mk.injEq] at H;obtain ⟨rfl, rfl⟩ := H;go_wp2_with (first | ((with_reducible refine gate_callee (f := 71) rfl ?_); refine goesL_ (some 68) rfl rfl Tryz.func71 kr_ rfl #[.string x0_2] rfl rl_ ?_; (with_reducible refine (tollref01_Name.calls kj22 x0_2 true _ A37.out).mono ?_); rintro e w39 ⟨rfl, hb⟩; refine ⟨_, rfl, ?_⟩; have n0_ := am_ (below_step (bel_ HB.out) hb); clear HB; have HB := n0_; clear n0_; (try clear hb); (try clear hb2); (try clear hk); (try clear hi)))
       go_ret2
       exact ⟨fi_, bel_ HB.out⟩
      ·replace c38 := Bool.eq_false_iff.mpr c38
       subst c38;have H1 : (some ((⟨#[]⟩ : ByteArray), false)) = some (r1, r2) := by rw [if_neg (show ¬ (false = true) by decide)] at H; exact H
       clear H;have H := H1;clear H1;simp only [Option.some.injEq, Prod.mk.injEq] at H;obtain ⟨rfl, rfl⟩ := H;go_wp2_with (first | ((with_reducible refine gate_callee (f := 71) rfl ?_); refine goesL_ (some 68) rfl rfl Tryz.func71 kr_ rfl #[.string x0_2] rfl rl_ ?_; (with_reducible refine (tollref01_Name.calls kj22 x0_2 false _ A37.out).mono ?_); rintro e w40 ⟨rfl, hb⟩; refine ⟨_, rfl, ?_⟩; have n0_ := am_ (below_step (bel_ HB.out) hb); clear HB; have HB := n0_; clear n0_; (try clear hb); (try clear hb2); (try clear hk); (try clear hi)))
       go_ret2
       exact ⟨fi_, bel_ HB.out⟩

/-! ### tollref18_Host: function 22 -/
def tollref18_Host.f (k : Nat) (l0 : List (S51)) : Option (ByteArray × Bool) := (tollref05_All.f k l0 (⟨#[104, 111, 115, 116]⟩ : ByteArray)).bind fun pa => (if (pa.length : Int) = 1 then (if 0 < (pa.length : Int) then ((tollref02_Of.f k (rdOf ByteArray.empty pa 0)).bind fun bt206 => (some (bt206.1, bt206.2))) else (none)) else (some ((⟨#[]⟩ : ByteArray), false)))
theorem tollref18_Host.mono : ∀ a0 k, LeO (tollref18_Host.f k a0) (tollref18_Host.f (k + 1) a0) := by
 intro a0 k;unfold tollref18_Host.f;repeat' first
   | (with_reducible exact tollref02_Of.mono _ _)
   | (with_reducible exact tollref05_All.mono _ _ _)
   | (with_reducible exact LeO.refl _)
   | (with_reducible exact LeO.none _)
   | (with_reducible refine LeO.ite ?_ ?_)
   | (with_reducible refine LeO.bind ?_ (fun _ => ?_))
   | exact tollref02_Of.mono _ _
   | exact tollref05_All.mono _ _ _
   | exact LeO.none _
   | refine LeO.ite ?_ ?_
   | refine LeO.bind ?_ (fun _ => ?_)
set_option maxHeartbeats 8000000 in
set_option maxRecDepth 100000 in
theorem tollref18_Host.calls (k : Nat) (A0 : Option Addr) (c0 : Nat) (l0 : List (S51)) (r1 : ByteArray) (r2 : Bool) (w : World) (hr0 : Kd.C k51 w A0 l0.length l0) (hc0 : l0.length ≤ c0) (h : tollref18_Host.f k l0 = some (r1, r2)) :
  Calls Tryz.prog 22 #[.slice A0 l0.length c0] w fun e w' => e = .returned (.tuple #[.string r1, .bool r2]) ∧ Below w.heap.size w w' := by
 have HR0 := Aside0.mk hr0;have HC0 := Aside0.mk hc0;clear hr0 hc0;have HB := am_ (Below.refl w.heap.size w);have H : ((tollref05_All.f k l0 (⟨#[104, 111, 115, 116]⟩ : ByteArray)).bind fun pa => (if (pa.length : Int) = 1 then (if 0 < (pa.length : Int) then ((tollref02_Of.f k (rdOf ByteArray.empty pa 0)).bind fun bt206 => (some (bt206.1, bt206.2))) else (none)) else (some ((⟨#[]⟩ : ByteArray), false)))) = some (r1, r2) := h;clear h;replace H := Option.bind_eq_some_iff.mp H;obtain ⟨pa, A20, H⟩ := H;replace H : (if (pa.length : Int) = 1 then (if 0 < (pa.length : Int) then ((tollref02_Of.f k (rdOf ByteArray.empty pa 0)).bind fun bt206 => (some (bt206.1, bt206.2))) else (none)) else (some ((⟨#[]⟩ : ByteArray), false))) = some (r1, r2) := H;have A2 := Aside0.mk A20;clear A20;by_cases c3 : (pa.length : Int) = 1
 ·rw [if_pos c3] at H
  have c3b0 : ((pa.length : Int) == 1) = true := beq_iff_eq.mpr c3;have c3b1 : ((pa.length : Int) != 1) = false := bne_eq_false_iff_eq.mpr c3;clear c3;by_cases c4 : 0 < (pa.length : Int)
  ·rw [if_pos c4] at H
   have c4b0 : decide (0 < (pa.length : Int)) = true := decide_eq_true c4;have c4b1 : decide (0 < pa.length) = true := decide_eq_true (by omega);clear c4;replace H := Option.bind_eq_some_iff.mp H;obtain ⟨⟨pi, pj⟩, A50, H⟩ := H;replace H : (some (pi, pj)) = some (r1, r2) := H;have A5 := Aside0.mk A50;clear A50;simp only [Option.some.injEq, Prod.mk.injEq] at H;obtain ⟨rfl, rfl⟩ := H;go_enter Tryz.func22, Tryz.ntmps22
   go_wp2_with (first | ((with_reducible refine gate_callee (f := 42) rfl ?_); refine goesL_ (some 6) rfl rfl Tryz.func42 kr_ rfl #[.slice A0 l0.length c0, .string (⟨#[104, 111, 115, 116]⟩ : ByteArray)] rfl rl_ ?_; (with_reducible refine (tollref05_All.calls k _ _ l0 (⟨#[104, 111, 115, 116]⟩ : ByteArray) pa _ ?side1 ?side2 A2.out).mono ?_); (case side1 => exact C_ HR0.out); (case side2 => exact HC0.out); rintro e w6 ⟨pr, rfl, ho0, hb⟩; refine ⟨_, rfl, ?_⟩; have n0_ := am_ (Kd.R_lower ho0 (below_size (bel_ HB.out))); have n1_ := am_ (below_step (bel_ HB.out) hb); clear HB; have pe := n0_; have HB := n1_; clear n0_ n1_; (try clear hb); (try clear hb2); (try clear hk); (try clear hi); (try clear ho0); obtain ⟨px, pz, eo7⟩ := Kd.R_slice pe.out; subst eo7; have p205 : 0 ≤ (0 : Int) := (by omega); have q205 : 0 < (pa.length : Int) := of_decide_eq_true as_; obtain ⟨pA, e205, hx205_0⟩ := Kd.at_string (Kd.R_reads' pe.out).2.2 0 p205 q205; cases e205; have qi205 : (0 < pa.length) = True := eq_true (by omega); (try rw [show ((0 : Int)).toNat = 0 from rfl] at hx205_0); (try rw [Addr.add_zero'] at hx205_0); replace p205 := eq_true p205; replace q205 := eq_true q205) | ((with_reducible refine gate_callee (f := 43) rfl ?_); refine goesL_ (some 13) rfl rfl Tryz.func43 kr_ rfl #[.string (rdOf ByteArray.empty pa 0)] rfl rl_ ?_; (with_reducible refine (tollref02_Of.calls k (rdOf ByteArray.empty pa 0) pi pj _ A5.out).mono ?_); rintro e w8 ⟨rfl, hb⟩; refine ⟨_, rfl, ?_⟩; have n0_ := am_ (Kd.R_below (R_ pe.out) hb); have n1_ := am_ (below_step (bel_ HB.out) hb); clear pe HB; have pe := n0_; have HB := n1_; clear n0_ n1_; (try clear hb); (try clear hb2); (try clear hk); (try clear hi)))
   go_ret2
   exact ⟨fi_, bel_ HB.out⟩
  ·rw [if_neg c4] at H
   exact absurd H (by simp)
 ·rw [if_neg c3] at H
  have c3b0 : ((pa.length : Int) == 1) = false := beq_eq_false_iff_ne.mpr c3;have c3b1 : ((pa.length : Int) != 1) = true := bne_iff_ne.mpr c3;simp only [Option.some.injEq, Prod.mk.injEq] at H;obtain ⟨rfl, rfl⟩ := H;go_enter Tryz.func22, Tryz.ntmps22
  go_wp2_with (first | ((with_reducible refine gate_callee (f := 42) rfl ?_); refine goesL_ (some 6) rfl rfl Tryz.func42 kr_ rfl #[.slice A0 l0.length c0, .string (⟨#[104, 111, 115, 116]⟩ : ByteArray)] rfl rl_ ?_; (with_reducible refine (tollref05_All.calls k _ _ l0 (⟨#[104, 111, 115, 116]⟩ : ByteArray) pa _ ?side1 ?side2 A2.out).mono ?_); (case side1 => exact C_ HR0.out); (case side2 => exact HC0.out); rintro e w9 ⟨pr, rfl, ho0, hb⟩; refine ⟨_, rfl, ?_⟩; have n0_ := am_ (Kd.R_lower ho0 (below_size (bel_ HB.out))); have n1_ := am_ (below_step (bel_ HB.out) hb); clear HB; have pe := n0_; have HB := n1_; clear n0_ n1_; (try clear hb); (try clear hb2); (try clear hk); (try clear hi); (try clear ho0); obtain ⟨pn, po, eo10⟩ := Kd.R_slice pe.out; subst eo10))
  go_ret2
  exact ⟨fi_, bel_ HB.out⟩

/-! ### tollref06_Method: function 23 -/
def tollref06_Method.l0 : Nat → ByteArray → Int → Option (Bool)
 | 0, _, _ => none
 | k + 1, x0, x3 => if x3 < (x0.size : Int) then (if 0 ≤ x3 then (if (bt x0 x3) < 65 then (some false) else (if (bt x0 x3) > 90 then (some false) else (tollref06_Method.l0 k x0 (wrap64 (x3 + 1))))) else (none)) else (if 1 ≤ (x0.size : Int) then (some (decide ((x0.size : Int) ≤ 10))) else (some false))
def tollref06_Method.f (k : Nat) (a0 : ByteArray) : Option (Bool) := tollref06_Method.l0 k a0 0
theorem tollref06_Method.mono_l : ∀ k, (∀ y0 y1, LeO (tollref06_Method.l0 k y0 y1) (tollref06_Method.l0 (k + 1) y0 y1))
 | 0 => fun _ _ r h => by simp [tollref06_Method.l0] at h
 | k + 1 => by
  have ih0 := tollref06_Method.mono_l k
  ·intro y0 y1
   unfold tollref06_Method.l0;repeat' first
   | (with_reducible exact ih0 _ _)
   | (with_reducible exact LeO.refl _)
   | (with_reducible exact LeO.none _)
   | (with_reducible refine LeO.ite ?_ ?_)
   | (with_reducible refine LeO.bind ?_ (fun _ => ?_))
   | exact ih0 _ _
   | exact LeO.none _
   | refine LeO.ite ?_ ?_
   | refine LeO.bind ?_ (fun _ => ?_)
theorem tollref06_Method.mono : ∀ a0 k, LeO (tollref06_Method.f k a0) (tollref06_Method.f (k + 1) a0) := by
 intro a0 k;have ih0 := tollref06_Method.mono_l k
 unfold tollref06_Method.f;repeat' first
   | (with_reducible exact ih0 _ _)
   | (with_reducible exact LeO.refl _)
   | (with_reducible exact LeO.none _)
   | (with_reducible refine LeO.ite ?_ ?_)
   | (with_reducible refine LeO.bind ?_ (fun _ => ?_))
   | exact ih0 _ _
   | exact LeO.none _
   | refine LeO.ite ?_ ?_
   | refine LeO.bind ?_ (fun _ => ?_)
set_option maxHeartbeats 8000000 in
set_option maxRecDepth 100000 in
theorem tollref06_Method.calls (k : Nat) (a0 : ByteArray) (r : Bool) (w : World) (h : tollref06_Method.f k a0 = some r) :
  Calls Tryz.prog 23 #[.string a0] w fun e w' => e = .returned (.bool r) ∧ Drawn0 w w' := by
 have H : (tollref06_Method.l0 k a0 0) = some r := h;clear h;have H' := Aside0.mk H;clear H;go_enter Tryz.func23, Tryz.ntmps23
 go_wp2
 go_loopg [3] k (fun kq v3 w' => ∃ (x3_1 : Int), v3 = .int .i64 x3_1 ∧ Aside0 (tollref06_Method.l0 kq a0 x3_1 = some r) ∧ Aside0 (kq ≤ k) ∧ Drawn0 w w')
 case atStart => exact ⟨(0), sd_, H', ⟨Nat.le_refl _⟩, by repeat (first | exact Drawn0.refl _ | apply Drawn0.step)⟩
 case round =>
  clear H';obtain ⟨x3_1, rfl, HA, HK1, ⟨m1, rfl⟩⟩ := hrel;cases gk with
  | zero => exact absurd HA.out (by simp [tollref06_Method.l0])
  | succ k1 =>
   have H := HA.out;clear HA;simp only [tollref06_Method.l0] at H;by_cases c2 : x3_1 < (a0.size : Int)
   ·rw [if_pos c2] at H
    have c2b0 : decide (x3_1 < (a0.size : Int)) = true := decide_eq_true c2;clear c2;by_cases c3 : 0 ≤ x3_1
    ·rw [if_pos c3] at H
     have c3b0 : decide (0 ≤ x3_1) = true := decide_eq_true c3;clear c3;by_cases c5 : (bt a0 x3_1) < 65
     ·rw [if_pos c5] at H
      have c5b0 : decide ((bt a0 x3_1) < 65) = true := decide_eq_true c5;clear c5;obtain rfl := Option.some.inj H;have p4 : 0 ≤ (x3_1 : Int) := of_decide_eq_true as_;have q4 : x3_1 < (a0.size : Int) := of_decide_eq_true as_;have hx4 := bt_at a0 x3_1;replace p4 := eq_true p4;replace q4 := eq_true q4;go_wp2
      go_ret
      exact ⟨by first | rfl | (simp; done) | (simp [*]; done) | (simp [bne_nil_isEmpty, beq_nil_isEmpty]; done) | (simp [*, bne_nil_isEmpty, beq_nil_isEmpty]; done), by repeat (first | exact Drawn0.refl _ | apply Drawn0.step)⟩
     ·rw [if_neg c5] at H
      have c5b0 : decide ((bt a0 x3_1) < 65) = false := decide_eq_false c5;clear c5;by_cases c7 : (bt a0 x3_1) > 90
      ·rw [if_pos c7] at H
       have c7b0 : decide (90 < (bt a0 x3_1)) = true := decide_eq_true c7;clear c7;obtain rfl := Option.some.inj H;have p4 : 0 ≤ (x3_1 : Int) := of_decide_eq_true as_;have q4 : x3_1 < (a0.size : Int) := of_decide_eq_true as_;have hx4 := bt_at a0 x3_1;replace p4 := eq_true p4;replace q4 := eq_true q4;have p6 : 0 ≤ (x3_1 : Int) := of_decide_eq_true as_;have q6 : x3_1 < (a0.size : Int) := of_decide_eq_true as_;have hx6 := bt_at a0 x3_1;replace p6 := eq_true p6;replace q6 := eq_true q6;go_wp2
       go_ret
       exact ⟨by first | rfl | (simp; done) | (simp [*]; done) | (simp [bne_nil_isEmpty, beq_nil_isEmpty]; done) | (simp [*, bne_nil_isEmpty, beq_nil_isEmpty]; done), by repeat (first | exact Drawn0.refl _ | apply Drawn0.step)⟩
      ·rw [if_neg c7] at H
       have c7b0 : decide (90 < (bt a0 x3_1)) = false := decide_eq_false c7;clear c7;have H' := Aside0.mk H;clear H;have p4 : 0 ≤ (x3_1 : Int) := of_decide_eq_true as_;have q4 : x3_1 < (a0.size : Int) := of_decide_eq_true as_;have hx4 := bt_at a0 x3_1;replace p4 := eq_true p4;replace q4 := eq_true q4;have p6 : 0 ≤ (x3_1 : Int) := of_decide_eq_true as_;have q6 : x3_1 < (a0.size : Int) := of_decide_eq_true as_;have hx6 := bt_at a0 x3_1;replace p6 := eq_true p6;replace q6 := eq_true q6;go_wp2
       go_roundg k1
       case measure => have := HK1.out; omega
       case rel => exact ⟨(wrap64 (x3_1 + 1)), sd_, H', ⟨by have := HK1.out; omega⟩, by repeat (first | exact Drawn0.refl _ | apply Drawn0.step)⟩
    ·rw [if_neg c3] at H
     exact absurd H (by simp)
   ·rw [if_neg c2] at H
    have c2b0 : decide (x3_1 < (a0.size : Int)) = false := decide_eq_false c2;clear c2;by_cases c8 : 1 ≤ (a0.size : Int)
    ·rw [if_pos c8] at H
     have c8b0 : decide (1 ≤ (a0.size : Int)) = true := decide_eq_true c8;have c8b1 : decide (1 ≤ a0.size) = true := decide_eq_true (by omega);clear c8;obtain rfl := Option.some.inj H;go_wp2
     go_ret
     exact ⟨by first | rfl | (simp; done) | (simp [*]; done) | (simp [bne_nil_isEmpty, beq_nil_isEmpty]; done) | (simp [*, bne_nil_isEmpty, beq_nil_isEmpty]; done), by repeat (first | exact Drawn0.refl _ | apply Drawn0.step)⟩
    ·rw [if_neg c8] at H
     have c8b0 : decide (1 ≤ (a0.size : Int)) = false := decide_eq_false c8;have c8b1 : decide (1 ≤ a0.size) = false := decide_eq_false (by omega);clear c8;obtain rfl := Option.some.inj H;go_wp2
     go_ret
     exact ⟨by first | rfl | (simp; done) | (simp [*]; done) | (simp [bne_nil_isEmpty, beq_nil_isEmpty]; done) | (simp [*, bne_nil_isEmpty, beq_nil_isEmpty]; done), by repeat (first | exact Drawn0.refl _ | apply Drawn0.step)⟩

/-! ### tollref03_Is: function 24 -/
mutual
def tollref03_Is.j0 : Nat → ByteArray → Bool → Option (Bool)
 | 0, _, _ => none
 | k + 1, x0, x16 => if x16 = true then (some false) else (tollref03_Is.l0 k x0 0)
def tollref03_Is.l0 : Nat → ByteArray → Int → Option (Bool)
 | 0, _, _ => none
 | k + 1, x0, x3 => if x3 < (x0.size : Int) then (if 0 ≤ x3 then (if (bt x0 x3) < 33 then (some false) else (if (bt x0 x3) > 126 then (some false) else (if (bt x0 x3) = 63 then (some false) else (if (bt x0 x3) = 35 then (some false) else (tollref03_Is.l0 k x0 (wrap64 (x3 + 1))))))) else (none)) else (some true)
end
def tollref03_Is.f (k : Nat) (a0 : ByteArray) : Option (Bool) := if (a0.size : Int) < 1 then (tollref03_Is.j0 k a0 true) else (if (a0.size : Int) > 60 then (tollref03_Is.j0 k a0 true) else (if 0 < (a0.size : Int) then (tollref03_Is.j0 k a0 ((bt a0 0) != 47)) else (none)))
theorem tollref03_Is.mono_l : ∀ k, (∀ y0 y1, LeO (tollref03_Is.j0 k y0 y1) (tollref03_Is.j0 (k + 1) y0 y1)) ∧ (∀ y0 y1, LeO (tollref03_Is.l0 k y0 y1) (tollref03_Is.l0 (k + 1) y0 y1))
 | 0 => ⟨fun _ _ r h => by simp [tollref03_Is.j0] at h, fun _ _ r h => by simp [tollref03_Is.l0] at h⟩
 | k + 1 => by
  obtain ⟨ih0, ih1⟩ := tollref03_Is.mono_l k;refine ⟨?_, ?_⟩
  ·intro y0 y1
   unfold tollref03_Is.j0;repeat' first
   | (with_reducible exact ih0 _ _)
   | (with_reducible exact ih1 _ _)
   | (with_reducible exact LeO.refl _)
   | (with_reducible exact LeO.none _)
   | (with_reducible refine LeO.ite ?_ ?_)
   | (with_reducible refine LeO.bind ?_ (fun _ => ?_))
   | exact ih0 _ _
   | exact ih1 _ _
   | exact LeO.none _
   | refine LeO.ite ?_ ?_
   | refine LeO.bind ?_ (fun _ => ?_)
  ·intro y0 y1
   unfold tollref03_Is.l0;repeat' first
   | (with_reducible exact ih0 _ _)
   | (with_reducible exact ih1 _ _)
   | (with_reducible exact LeO.refl _)
   | (with_reducible exact LeO.none _)
   | (with_reducible refine LeO.ite ?_ ?_)
   | (with_reducible refine LeO.bind ?_ (fun _ => ?_))
   | exact ih0 _ _
   | exact ih1 _ _
   | exact LeO.none _
   | refine LeO.ite ?_ ?_
   | refine LeO.bind ?_ (fun _ => ?_)
theorem tollref03_Is.mono : ∀ a0 k, LeO (tollref03_Is.f k a0) (tollref03_Is.f (k + 1) a0) := by
 intro a0 k;obtain ⟨ih0, ih1⟩ := tollref03_Is.mono_l k;unfold tollref03_Is.f;repeat' first
   | (with_reducible exact ih0 _ _)
   | (with_reducible exact ih1 _ _)
   | (with_reducible exact LeO.refl _)
   | (with_reducible exact LeO.none _)
   | (with_reducible refine LeO.ite ?_ ?_)
   | (with_reducible refine LeO.bind ?_ (fun _ => ?_))
   | exact ih0 _ _
   | exact ih1 _ _
   | exact LeO.none _
   | refine LeO.ite ?_ ?_
   | refine LeO.bind ?_ (fun _ => ?_)
set_option maxHeartbeats 8000000 in
set_option maxRecDepth 100000 in
theorem tollref03_Is.calls (k : Nat) (a0 : ByteArray) (r : Bool) (w : World) (h : tollref03_Is.f k a0 = some r) :
  Calls Tryz.prog 24 #[.string a0] w fun e w' => e = .returned (.bool r) ∧ Drawn0 w w' := by
 have H : (if (a0.size : Int) < 1 then (tollref03_Is.j0 k a0 true) else (if (a0.size : Int) > 60 then (tollref03_Is.j0 k a0 true) else (if 0 < (a0.size : Int) then (tollref03_Is.j0 k a0 ((bt a0 0) != 47)) else (none)))) = some r := h;clear h;have HC2 := Aside0.mk H;clear H;go_enter Tryz.func24, Tryz.ntmps24
 go_upto_region 1 with (fail)
 go_cut [16] (fun ps wc => ∃ (kq : Nat) (x16_1 : Bool), ps = .bool x16_1 ∧ Aside0 (tollref03_Is.j0 kq a0 x16_1 = some r) ∧ Aside0 (kq ≤ k) ∧ Drawn0 w wc)
 case first =>
  have H := HC2.out;clear HC2;by_cases c3 : (a0.size : Int) < 1
  ·rw [if_pos c3] at H
   have c3b0 : decide ((a0.size : Int) < 1) = true := decide_eq_true c3;have c3b1 : decide (a0.size < 1) = true := decide_eq_true (by omega);clear c3;(first | rw [c3b0] | rw [c3b1] | rw [c3b2] | (simp only [i64_w, i32_w]; rw [c3b0]) | skip);have H' := Aside0.mk H;clear H;go_wp2
   go_meet
   case rel => exact ⟨_, (true), sd_, H', ⟨by first | omega | exact Nat.le_refl _⟩, by repeat (first | exact Drawn0.refl _ | apply Drawn0.step)⟩
  ·rw [if_neg c3] at H
   have c3b0 : decide ((a0.size : Int) < 1) = false := decide_eq_false c3;have c3b1 : decide (a0.size < 1) = false := decide_eq_false (by omega);clear c3;(first | rw [c3b0] | rw [c3b1] | rw [c3b2] | (simp only [i64_w, i32_w]; rw [c3b0]) | skip);by_cases c4 : (a0.size : Int) > 60
   ·rw [if_pos c4] at H
    have c4b0 : decide (60 < (a0.size : Int)) = true := decide_eq_true c4;have c4b1 : decide (60 < a0.size) = true := decide_eq_true (by omega);clear c4;have H' := Aside0.mk H;clear H;go_wp2
    go_meet
    case rel => exact ⟨_, (true), sd_, H', ⟨by first | omega | exact Nat.le_refl _⟩, by repeat (first | exact Drawn0.refl _ | apply Drawn0.step)⟩
   ·rw [if_neg c4] at H
    have c4b0 : decide (60 < (a0.size : Int)) = false := decide_eq_false c4;have c4b1 : decide (60 < a0.size) = false := decide_eq_false (by omega);clear c4;by_cases c5 : 0 < (a0.size : Int)
    ·rw [if_pos c5] at H
     have c5b0 : decide (0 < (a0.size : Int)) = true := decide_eq_true c5;have c5b1 : decide (0 < a0.size) = true := decide_eq_true (by omega);clear c5;have H' := Aside0.mk H;clear H;have p6 : 0 ≤ (0 : Int) := (by omega);have q6 : 0 < a0.size := (by have : (0 : Int) < (a0.size : Int) := of_decide_eq_true as_; omega);have hx6 : ∀ h : 0 < a0.size, ((a0[0]'h).toNat : Int) = bt a0 0 := bt_at a0 0;clear p6;have qi6 : (0 < (a0.size : Int)) = True := eq_true (of_decide_eq_true as_);replace q6 := eq_true q6;go_wp2
     go_meet
     case rel => exact ⟨_, (((bt a0 0) != 47)), sd_, H', ⟨by first | omega | exact Nat.le_refl _⟩, by repeat (first | exact Drawn0.refl _ | apply Drawn0.step)⟩
    ·rw [if_neg c5] at H
     exact absurd H (by simp)
 case rest =>
  clear HC2;try clear c2
  try clear p2
  try clear c3
  try clear c3b0
  try clear c3b1
  try clear c3b2
  try clear c4
  try clear c4b0
  try clear c4b1
  try clear c5
  try clear c5b0
  try clear c5b1
  try clear p6
  try clear q6
  try clear hx6
  try clear qi6
  try clear p6
  try clear q6
  obtain ⟨kq, x16_1, rfl, HA, HJ1, ⟨mc1, rfl⟩⟩ := hcut;cases kq with
  | zero => exact absurd HA.out (by simp [tollref03_Is.j0])
  | succ kj1 =>
   have H := HA.out;clear HA;simp only [tollref03_Is.j0] at H;by_cases c7 : x16_1 = true
   ·subst c7
    have H1 : (some false) = some r := by rw [if_pos rfl] at H; exact H
    clear H;have H := H1;clear H1;obtain rfl := Option.some.inj H;go_wp2
    go_ret
    exact ⟨by first | rfl | (simp; done) | (simp [*]; done) | (simp [bne_nil_isEmpty, beq_nil_isEmpty]; done) | (simp [*, bne_nil_isEmpty, beq_nil_isEmpty]; done), by repeat (first | exact Drawn0.refl _ | apply Drawn0.step)⟩
   ·replace c7 := Bool.eq_false_iff.mpr c7
    subst c7;have H1 : (tollref03_Is.l0 kj1 a0 0) = some r := by rw [if_neg (show ¬ (false = true) by decide)] at H; exact H
    clear H;have H := H1;clear H1;have H' := Aside0.mk H;clear H;go_wp2
    go_loopg [3] kj1 (fun kq v3 w' => ∃ (x3_2 : Int), v3 = .int .i64 x3_2 ∧ Aside0 (tollref03_Is.l0 kq a0 x3_2 = some r) ∧ Aside0 (kq ≤ kj1) ∧ Drawn0 w w')
    case atStart => exact ⟨(0), sd_, H', ⟨Nat.le_refl _⟩, by repeat (first | exact Drawn0.refl _ | apply Drawn0.step)⟩
    case round =>
     clear H';try clear c1
     try clear c2
     try clear p2
     try clear c3
     try clear c3b0
     try clear c3b1
     try clear c3b2
     try clear c4
     try clear c4b0
     try clear c4b1
     try clear c5
     try clear c5b0
     try clear c5b1
     try clear p6
     try clear q6
     try clear hx6
     try clear qi6
     try clear c7
     try clear p2
     try clear p6
     try clear q6
     obtain ⟨x3_2, rfl, HA, HK2, ⟨m2, rfl⟩⟩ := hrel;cases gk with
     | zero => exact absurd HA.out (by simp [tollref03_Is.l0])
     | succ k2 =>
      have H := HA.out;clear HA;simp only [tollref03_Is.l0] at H;by_cases c8 : x3_2 < (a0.size : Int)
      ·rw [if_pos c8] at H
       have c8b0 : decide (x3_2 < (a0.size : Int)) = true := decide_eq_true c8;clear c8;by_cases c9 : 0 ≤ x3_2
       ·rw [if_pos c9] at H
        have c9b0 : decide (0 ≤ x3_2) = true := decide_eq_true c9;clear c9;by_cases c11 : (bt a0 x3_2) < 33
        ·rw [if_pos c11] at H
         have c11b0 : decide ((bt a0 x3_2) < 33) = true := decide_eq_true c11;clear c11;obtain rfl := Option.some.inj H;have p10 : 0 ≤ (x3_2 : Int) := of_decide_eq_true as_;have q10 : x3_2 < (a0.size : Int) := of_decide_eq_true as_;have hx10 := bt_at a0 x3_2;replace p10 := eq_true p10;replace q10 := eq_true q10;go_wp2
         go_ret
         exact ⟨by first | rfl | (simp; done) | (simp [*]; done) | (simp [bne_nil_isEmpty, beq_nil_isEmpty]; done) | (simp [*, bne_nil_isEmpty, beq_nil_isEmpty]; done), by repeat (first | exact Drawn0.refl _ | apply Drawn0.step)⟩
        ·rw [if_neg c11] at H
         have c11b0 : decide ((bt a0 x3_2) < 33) = false := decide_eq_false c11;clear c11;by_cases c13 : (bt a0 x3_2) > 126
         ·rw [if_pos c13] at H
          have c13b0 : decide (126 < (bt a0 x3_2)) = true := decide_eq_true c13;clear c13;obtain rfl := Option.some.inj H;have p10 : 0 ≤ (x3_2 : Int) := of_decide_eq_true as_;have q10 : x3_2 < (a0.size : Int) := of_decide_eq_true as_;have hx10 := bt_at a0 x3_2;replace p10 := eq_true p10;replace q10 := eq_true q10;have p12 : 0 ≤ (x3_2 : Int) := of_decide_eq_true as_;have q12 : x3_2 < (a0.size : Int) := of_decide_eq_true as_;have hx12 := bt_at a0 x3_2;replace p12 := eq_true p12;replace q12 := eq_true q12;go_wp2
          go_ret
          exact ⟨by first | rfl | (simp; done) | (simp [*]; done) | (simp [bne_nil_isEmpty, beq_nil_isEmpty]; done) | (simp [*, bne_nil_isEmpty, beq_nil_isEmpty]; done), by repeat (first | exact Drawn0.refl _ | apply Drawn0.step)⟩
         ·rw [if_neg c13] at H
          have c13b0 : decide (126 < (bt a0 x3_2)) = false := decide_eq_false c13;clear c13;by_cases c15 : (bt a0 x3_2) = 63
          ·rw [if_pos c15] at H
           have c15b0 : ((bt a0 x3_2) == 63) = true := beq_iff_eq.mpr c15;have c15b1 : ((bt a0 x3_2) != 63) = false := bne_eq_false_iff_eq.mpr c15;clear c15;obtain rfl := Option.some.inj H;have p10 : 0 ≤ (x3_2 : Int) := of_decide_eq_true as_;have q10 : x3_2 < (a0.size : Int) := of_decide_eq_true as_;have hx10 := bt_at a0 x3_2;replace p10 := eq_true p10;replace q10 := eq_true q10;have p12 : 0 ≤ (x3_2 : Int) := of_decide_eq_true as_;have q12 : x3_2 < (a0.size : Int) := of_decide_eq_true as_;have hx12 := bt_at a0 x3_2;replace p12 := eq_true p12;replace q12 := eq_true q12;have p14 : 0 ≤ (x3_2 : Int) := of_decide_eq_true as_;have q14 : x3_2 < (a0.size : Int) := of_decide_eq_true as_;have hx14 := bt_at a0 x3_2;replace p14 := eq_true p14;replace q14 := eq_true q14;go_wp2
           go_ret
           exact ⟨by first | rfl | (simp; done) | (simp [*]; done) | (simp [bne_nil_isEmpty, beq_nil_isEmpty]; done) | (simp [*, bne_nil_isEmpty, beq_nil_isEmpty]; done), by repeat (first | exact Drawn0.refl _ | apply Drawn0.step)⟩
          ·rw [if_neg c15] at H
           have c15b0 : ((bt a0 x3_2) == 63) = false := beq_eq_false_iff_ne.mpr c15;have c15b1 : ((bt a0 x3_2) != 63) = true := bne_iff_ne.mpr c15;by_cases c17 : (bt a0 x3_2) = 35
           ·rw [if_pos c17] at H
            have c17b0 : ((bt a0 x3_2) == 35) = true := beq_iff_eq.mpr c17;have c17b1 : ((bt a0 x3_2) != 35) = false := bne_eq_false_iff_eq.mpr c17;clear c17;obtain rfl := Option.some.inj H;have p10 : 0 ≤ (x3_2 : Int) := of_decide_eq_true as_;have q10 : x3_2 < (a0.size : Int) := of_decide_eq_true as_;have hx10 := bt_at a0 x3_2;replace p10 := eq_true p10;replace q10 := eq_true q10;have p12 : 0 ≤ (x3_2 : Int) := of_decide_eq_true as_;have q12 : x3_2 < (a0.size : Int) := of_decide_eq_true as_;have hx12 := bt_at a0 x3_2;replace p12 := eq_true p12;replace q12 := eq_true q12;have p14 : 0 ≤ (x3_2 : Int) := of_decide_eq_true as_;have q14 : x3_2 < (a0.size : Int) := of_decide_eq_true as_;have hx14 := bt_at a0 x3_2;replace p14 := eq_true p14;replace q14 := eq_true q14;have p16 : 0 ≤ (x3_2 : Int) := of_decide_eq_true as_;have q16 : x3_2 < (a0.size : Int) := of_decide_eq_true as_;have hx16 := bt_at a0 x3_2;replace p16 := eq_true p16;replace q16 := eq_true q16;go_wp2
            go_ret
            exact ⟨by first | rfl | (simp; done) | (simp [*]; done) | (simp [bne_nil_isEmpty, beq_nil_isEmpty]; done) | (simp [*, bne_nil_isEmpty, beq_nil_isEmpty]; done), by repeat (first | exact Drawn0.refl _ | apply Drawn0.step)⟩
           ·rw [if_neg c17] at H
            have c17b0 : ((bt a0 x3_2) == 35) = false := beq_eq_false_iff_ne.mpr c17;have c17b1 : ((bt a0 x3_2) != 35) = true := bne_iff_ne.mpr c17;have H' := Aside0.mk H;clear H;have p10 : 0 ≤ (x3_2 : Int) := of_decide_eq_true as_;have q10 : x3_2 < (a0.size : Int) := of_decide_eq_true as_;have hx10 := bt_at a0 x3_2;replace p10 := eq_true p10;replace q10 := eq_true q10;have p12 : 0 ≤ (x3_2 : Int) := of_decide_eq_true as_;have q12 : x3_2 < (a0.size : Int) := of_decide_eq_true as_;have hx12 := bt_at a0 x3_2;replace p12 := eq_true p12;replace q12 := eq_true q12;have p14 : 0 ≤ (x3_2 : Int) := of_decide_eq_true as_;have q14 : x3_2 < (a0.size : Int) := of_decide_eq_true as_;have hx14 := bt_at a0 x3_2;replace p14 := eq_true p14;replace q14 := eq_true q14;have p16 : 0 ≤ (x3_2 : Int) := of_decide_eq_true as_;have q16 : x3_2 < (a0.size : Int) := of_decide_eq_true as_;have hx16 := bt_at a0 x3_2;replace p16 := eq_true p16;replace q16 := eq_true q16;go_wp2
            go_roundg k2
            case measure => have := HJ1.out; have := HK2.out; omega
            case rel => exact ⟨(wrap64 (x3_2 + 1)), sd_, H', ⟨by have := HJ1.out; have := HK2.out; omega⟩, by repeat (first | exact Drawn0.refl _ | apply Drawn0.step)⟩
       ·rw [if_neg c9] at H
        exact absurd H (by simp)
      ·rw [if_neg c8] at H
       have c8b0 : decide (x3_2 < (a0.size : Int)) = false := decide_eq_false c8;clear c8;obtain rfl := Option.some.inj H;go_wp2
       go_ret
       exact ⟨by first | rfl | (simp; done) | (simp [*]; done) | (simp [bne_nil_isEmpty, beq_nil_isEmpty]; done) | (simp [*, bne_nil_isEmpty, beq_nil_isEmpty]; done), by repeat (first | exact Drawn0.refl _ | apply Drawn0.step)⟩

end Go.Proofs.YtpmllmfamjpinaaGreatDoor.P
