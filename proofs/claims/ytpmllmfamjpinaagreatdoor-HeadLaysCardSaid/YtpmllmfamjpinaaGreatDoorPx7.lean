-- written by wip/tool/hprint.py of this repo: the kit's print, with contracts by hand joined; Lean checks it.
import Derived.Test.YtpmllmfamjpinaaGreatDoorPx0
namespace Go.Proofs.YtpmllmfamjpinaaGreatDoor.P
open Go.RowKit Go.Proofs.YtpmllmfamjpinaaGreatDoorW.PrintWords Go.Proofs.YtpmllmfamjpinaaGreatDoorW.PrintLast Go.Proofs.YtpmllmfamjpinaaGreatDoorW.PrintMore
attribute [local go_sem] max2_int min2_int max_two min_two max_three min_three max_four min_four   -- for this text's walks alone
set_option linter.unusedVariables false
set_option linter.unusedSimpArgs false

/-! ### tollref04_May: function 25 -/
def tollref04_May.l0 : Nat → List (S51) → Int → Option (Bool)
 | 0, _, _ => none
 | k + 1, x0, x3 => if x3 < (x0.length : Int) then (if 0 ≤ x3 then (if (((rd_T51 x0 x3).f0).size : Int) < 1 then (some false) else (if (((rd_T51 x0 x3).f0).size : Int) > 40 then (some false) else (if (((rd_T51 x0 x3).f1).size : Int) > 40 then (some false) else (tollref04_May.l0 k x0 (wrap64 (x3 + 1)))))) else (none)) else (some (decide ((x0.length : Int) ≤ 20)))
def tollref04_May.f (k : Nat) (l0 : List (S51)) : Option (Bool) := tollref04_May.l0 k l0 0
theorem tollref04_May.mono_l : ∀ k, (∀ y0 y1, LeO (tollref04_May.l0 k y0 y1) (tollref04_May.l0 (k + 1) y0 y1))
 | 0 => fun _ _ r h => by simp [tollref04_May.l0] at h
 | k + 1 => by
  have ih0 := tollref04_May.mono_l k
  ·intro y0 y1
   unfold tollref04_May.l0
   repeat' first
   | (with_reducible exact ih0 _ _)
   | (with_reducible exact LeO.refl _)
   | (with_reducible exact LeO.none _)
   | (with_reducible refine LeO.ite ?_ ?_)
   | (with_reducible refine LeO.bind ?_ (fun _ => ?_))
   | exact ih0 _ _
   | exact LeO.none _
   | refine LeO.ite ?_ ?_
   | refine LeO.bind ?_ (fun _ => ?_)
theorem tollref04_May.mono : ∀ a0 k, LeO (tollref04_May.f k a0) (tollref04_May.f (k + 1) a0) := by
 intro a0 k
 have ih0 := tollref04_May.mono_l k
 unfold tollref04_May.f
 repeat' first
   | (with_reducible exact ih0 _ _)
   | (with_reducible exact LeO.refl _)
   | (with_reducible exact LeO.none _)
   | (with_reducible refine LeO.ite ?_ ?_)
   | (with_reducible refine LeO.bind ?_ (fun _ => ?_))
   | exact ih0 _ _
   | exact LeO.none _
   | refine LeO.ite ?_ ?_
   | refine LeO.bind ?_ (fun _ => ?_)
set_option maxHeartbeats 8000000 in
set_option maxRecDepth 100000 in
theorem tollref04_May.calls (k : Nat) (A0 : Option Addr) (c0 : Nat) (l0 : List (S51)) (r : Bool) (w : World) (hr0 : Kd.C k51 w A0 l0.length l0) (hc0 : l0.length ≤ c0) (h : tollref04_May.f k l0 = some r) :
  Calls Tryz.prog 25 #[.slice A0 l0.length c0] w fun e w' => e = .returned (.bool r) ∧ Drawn0 w w' := by
 have HR0 := Aside0.mk hr0;have HC0 := Aside0.mk hc0;clear hr0 hc0;have H : (tollref04_May.l0 k l0 0) = some r := h;clear h;have H' := Aside0.mk H;clear H;go_enter Tryz.func25, Tryz.ntmps25
 go_wp2
 go_loopg [3] k (fun kq v3 w' => ∃ (x3_1 : Int), v3 = .int .i64 x3_1 ∧ Aside0 (tollref04_May.l0 kq l0 x3_1 = some r) ∧ Aside0 (kq ≤ k) ∧ Drawn0 w w')
 case atStart => exact ⟨(0), sd_, H', ⟨Nat.le_refl _⟩, by repeat (first | exact Drawn0.refl _ | apply Drawn0.step)⟩
 case round =>
  clear H';obtain ⟨x3_1, rfl, HA, HK1, ⟨m1, rfl⟩⟩ := hrel;cases gk with
  | zero => exact absurd HA.out (by simp [tollref04_May.l0])
  | succ k1 =>
   have H := HA.out;clear HA;simp only [tollref04_May.l0] at H;by_cases c2 : x3_1 < (l0.length : Int)
   ·rw [if_pos c2] at H
    have c2b0 : decide (x3_1 < (l0.length : Int)) = true := decide_eq_true c2;clear c2;by_cases c3 : 0 ≤ x3_1
    ·rw [if_pos c3] at H
     have c3b0 : decide (0 ≤ x3_1) = true := decide_eq_true c3;clear c3;by_cases c4 : (((rd_T51 l0 x3_1).f0).size : Int) < 1
     ·rw [if_pos c4] at H
      have c4b0 : decide ((((rd_T51 l0 x3_1).f0).size : Int) < 1) = true := decide_eq_true c4;have c4b1 : decide (((rd_T51 l0 x3_1).f0).size < 1) = true := decide_eq_true (by omega);clear c4;obtain rfl := Option.some.inj H;have p208 : 0 ≤ (x3_1 : Int) := of_decide_eq_true as_;have q208 : x3_1 < (l0.length : Int) := of_decide_eq_true as_;obtain ⟨ph, e208, hx208_0, hx208_1⟩ := at_T51 HR0.out x3_1 p208 q208;cases e208;replace p208 := eq_true p208;replace q208 := eq_true q208;go_wp2
      go_ret
      exact ⟨by first | rfl | (simp; done) | (simp [*]; done) | (simp [bne_nil_isEmpty, beq_nil_isEmpty]; done) | (simp [*, bne_nil_isEmpty, beq_nil_isEmpty]; done), by repeat (first | exact Drawn0.refl _ | apply Drawn0.step)⟩
     ·rw [if_neg c4] at H
      have c4b0 : decide ((((rd_T51 l0 x3_1).f0).size : Int) < 1) = false := decide_eq_false c4;have c4b1 : decide (((rd_T51 l0 x3_1).f0).size < 1) = false := decide_eq_false (by omega);clear c4;by_cases c5 : (((rd_T51 l0 x3_1).f0).size : Int) > 40
      ·rw [if_pos c5] at H
       have c5b0 : decide (40 < (((rd_T51 l0 x3_1).f0).size : Int)) = true := decide_eq_true c5;have c5b1 : decide (40 < ((rd_T51 l0 x3_1).f0).size) = true := decide_eq_true (by omega);clear c5;obtain rfl := Option.some.inj H;have p208 : 0 ≤ (x3_1 : Int) := of_decide_eq_true as_;have q208 : x3_1 < (l0.length : Int) := of_decide_eq_true as_;obtain ⟨ph, e208, hx208_0, hx208_1⟩ := at_T51 HR0.out x3_1 p208 q208;cases e208;replace p208 := eq_true p208;replace q208 := eq_true q208;have p209 : 0 ≤ (x3_1 : Int) := of_decide_eq_true as_;have q209 : x3_1 < (l0.length : Int) := of_decide_eq_true as_;obtain ⟨pk, e209, hx209_0, hx209_1⟩ := at_T51 HR0.out x3_1 p209 q209;obtain rfl : ph = pk := (by injection e209);replace p209 := eq_true p209;replace q209 := eq_true q209;go_wp2
       go_ret
       exact ⟨by first | rfl | (simp; done) | (simp [*]; done) | (simp [bne_nil_isEmpty, beq_nil_isEmpty]; done) | (simp [*, bne_nil_isEmpty, beq_nil_isEmpty]; done), by repeat (first | exact Drawn0.refl _ | apply Drawn0.step)⟩
      ·rw [if_neg c5] at H
       have c5b0 : decide (40 < (((rd_T51 l0 x3_1).f0).size : Int)) = false := decide_eq_false c5;have c5b1 : decide (40 < ((rd_T51 l0 x3_1).f0).size) = false := decide_eq_false (by omega);clear c5;by_cases c6 : (((rd_T51 l0 x3_1).f1).size : Int) > 40
       ·rw [if_pos c6] at H
        have c6b0 : decide (40 < (((rd_T51 l0 x3_1).f1).size : Int)) = true := decide_eq_true c6;have c6b1 : decide (40 < ((rd_T51 l0 x3_1).f1).size) = true := decide_eq_true (by omega);clear c6;obtain rfl := Option.some.inj H;have p208 : 0 ≤ (x3_1 : Int) := of_decide_eq_true as_;have q208 : x3_1 < (l0.length : Int) := of_decide_eq_true as_;obtain ⟨ph, e208, hx208_0, hx208_1⟩ := at_T51 HR0.out x3_1 p208 q208;cases e208;replace p208 := eq_true p208;replace q208 := eq_true q208;have p209 : 0 ≤ (x3_1 : Int) := of_decide_eq_true as_;have q209 : x3_1 < (l0.length : Int) := of_decide_eq_true as_;obtain ⟨pk, e209, hx209_0, hx209_1⟩ := at_T51 HR0.out x3_1 p209 q209;obtain rfl : ph = pk := (by injection e209);replace p209 := eq_true p209;replace q209 := eq_true q209;have p210 : 0 ≤ (x3_1 : Int) := of_decide_eq_true as_;have q210 : x3_1 < (l0.length : Int) := of_decide_eq_true as_;obtain ⟨pm, e210, hx210_0, hx210_1⟩ := at_T51 HR0.out x3_1 p210 q210;obtain rfl : ph = pm := (by injection e210);replace p210 := eq_true p210;replace q210 := eq_true q210;go_wp2
        go_ret
        exact ⟨by first | rfl | (simp; done) | (simp [*]; done) | (simp [bne_nil_isEmpty, beq_nil_isEmpty]; done) | (simp [*, bne_nil_isEmpty, beq_nil_isEmpty]; done), by repeat (first | exact Drawn0.refl _ | apply Drawn0.step)⟩
       ·rw [if_neg c6] at H
        have c6b0 : decide (40 < (((rd_T51 l0 x3_1).f1).size : Int)) = false := decide_eq_false c6;have c6b1 : decide (40 < ((rd_T51 l0 x3_1).f1).size) = false := decide_eq_false (by omega);clear c6;have H' := Aside0.mk H;clear H;have p208 : 0 ≤ (x3_1 : Int) := of_decide_eq_true as_;have q208 : x3_1 < (l0.length : Int) := of_decide_eq_true as_;obtain ⟨ph, e208, hx208_0, hx208_1⟩ := at_T51 HR0.out x3_1 p208 q208;cases e208;replace p208 := eq_true p208;replace q208 := eq_true q208;have p209 : 0 ≤ (x3_1 : Int) := of_decide_eq_true as_;have q209 : x3_1 < (l0.length : Int) := of_decide_eq_true as_;obtain ⟨pk, e209, hx209_0, hx209_1⟩ := at_T51 HR0.out x3_1 p209 q209;obtain rfl : ph = pk := (by injection e209);replace p209 := eq_true p209;replace q209 := eq_true q209;have p210 : 0 ≤ (x3_1 : Int) := of_decide_eq_true as_;have q210 : x3_1 < (l0.length : Int) := of_decide_eq_true as_;obtain ⟨pm, e210, hx210_0, hx210_1⟩ := at_T51 HR0.out x3_1 p210 q210;obtain rfl : ph = pm := (by injection e210);replace p210 := eq_true p210;replace q210 := eq_true q210;go_wp2
        go_roundg k1
        case measure => have := HK1.out; omega
        case rel => exact ⟨(wrap64 (x3_1 + 1)), sd_, H', ⟨by have := HK1.out; omega⟩, by repeat (first | exact Drawn0.refl _ | apply Drawn0.step)⟩
    ·rw [if_neg c3] at H
     exact absurd H (by simp)
   ·rw [if_neg c2] at H
    have c2b0 : decide (x3_1 < (l0.length : Int)) = false := decide_eq_false c2;clear c2;obtain rfl := Option.some.inj H;go_wp2
    go_ret
    exact ⟨by first | rfl | (simp; done) | (simp [*]; done) | (simp [bne_nil_isEmpty, beq_nil_isEmpty]; done) | (simp [*, bne_nil_isEmpty, beq_nil_isEmpty]; done), by repeat (first | exact Drawn0.refl _ | apply Drawn0.step)⟩

/-! ### tollref04_Plain: function 72 -/
def tollref04_Plain.f (a0 : Int) : Option (Bool) := if 97 ≤ a0 then (if a0 ≤ 122 then (some true) else (if 65 ≤ a0 then (if a0 ≤ 90 then (some true) else (if 48 ≤ a0 then (if a0 ≤ 57 then (some true) else (if a0 = 45 then (some true) else (if a0 = 46 then (some true) else (if a0 = 95 then (some true) else (some (a0 == 126)))))) else (if a0 = 45 then (some true) else (if a0 = 46 then (some true) else (if a0 = 95 then (some true) else (some (a0 == 126))))))) else (if 48 ≤ a0 then (if a0 ≤ 57 then (some true) else (if a0 = 45 then (some true) else (if a0 = 46 then (some true) else (if a0 = 95 then (some true) else (some (a0 == 126)))))) else (if a0 = 45 then (some true) else (if a0 = 46 then (some true) else (if a0 = 95 then (some true) else (some (a0 == 126)))))))) else (if 65 ≤ a0 then (if a0 ≤ 90 then (some true) else (if 48 ≤ a0 then (if a0 ≤ 57 then (some true) else (if a0 = 45 then (some true) else (if a0 = 46 then (some true) else (if a0 = 95 then (some true) else (some (a0 == 126)))))) else (if a0 = 45 then (some true) else (if a0 = 46 then (some true) else (if a0 = 95 then (some true) else (some (a0 == 126))))))) else (if 48 ≤ a0 then (if a0 ≤ 57 then (some true) else (if a0 = 45 then (some true) else (if a0 = 46 then (some true) else (if a0 = 95 then (some true) else (some (a0 == 126)))))) else (if a0 = 45 then (some true) else (if a0 = 46 then (some true) else (if a0 = 95 then (some true) else (some (a0 == 126)))))))
set_option maxHeartbeats 8000000 in
set_option maxRecDepth 100000 in
theorem tollref04_Plain.calls (a0 : Int) (r : Bool) (w : World) (h : tollref04_Plain.f a0 = some r) :
  Calls Tryz.prog 72 #[.int .u8 a0] w fun e w' => e = .returned (.bool r) ∧ Drawn0 w w' := by
 have H : (if 97 ≤ a0 then (if a0 ≤ 122 then (some true) else (if 65 ≤ a0 then (if a0 ≤ 90 then (some true) else (if 48 ≤ a0 then (if a0 ≤ 57 then (some true) else (if a0 = 45 then (some true) else (if a0 = 46 then (some true) else (if a0 = 95 then (some true) else (some (a0 == 126)))))) else (if a0 = 45 then (some true) else (if a0 = 46 then (some true) else (if a0 = 95 then (some true) else (some (a0 == 126))))))) else (if 48 ≤ a0 then (if a0 ≤ 57 then (some true) else (if a0 = 45 then (some true) else (if a0 = 46 then (some true) else (if a0 = 95 then (some true) else (some (a0 == 126)))))) else (if a0 = 45 then (some true) else (if a0 = 46 then (some true) else (if a0 = 95 then (some true) else (some (a0 == 126)))))))) else (if 65 ≤ a0 then (if a0 ≤ 90 then (some true) else (if 48 ≤ a0 then (if a0 ≤ 57 then (some true) else (if a0 = 45 then (some true) else (if a0 = 46 then (some true) else (if a0 = 95 then (some true) else (some (a0 == 126)))))) else (if a0 = 45 then (some true) else (if a0 = 46 then (some true) else (if a0 = 95 then (some true) else (some (a0 == 126))))))) else (if 48 ≤ a0 then (if a0 ≤ 57 then (some true) else (if a0 = 45 then (some true) else (if a0 = 46 then (some true) else (if a0 = 95 then (some true) else (some (a0 == 126)))))) else (if a0 = 45 then (some true) else (if a0 = 46 then (some true) else (if a0 = 95 then (some true) else (some (a0 == 126)))))))) = some r := h;clear h;by_cases c2 : 97 ≤ a0
 ·rw [if_pos c2] at H
  have c2b0 : decide (97 ≤ a0) = true := decide_eq_true c2;clear c2;by_cases c3 : a0 ≤ 122
  ·rw [if_pos c3] at H
   have c3b0 : decide (a0 ≤ 122) = true := decide_eq_true c3;clear c3;obtain rfl := Option.some.inj H;go_enter Tryz.func72, Tryz.ntmps72
   go_wp2
   go_ret
   exact ⟨by first | rfl | (simp; done) | (simp [*]; done) | (simp [bne_nil_isEmpty, beq_nil_isEmpty]; done) | (simp [*, bne_nil_isEmpty, beq_nil_isEmpty]; done), by repeat (first | exact Drawn0.refl _ | apply Drawn0.step)⟩
  ·rw [if_neg c3] at H
   have c3b0 : decide (a0 ≤ 122) = false := decide_eq_false c3;clear c3;by_cases c4 : 65 ≤ a0
   ·rw [if_pos c4] at H
    have c4b0 : decide (65 ≤ a0) = true := decide_eq_true c4;clear c4;by_cases c5 : a0 ≤ 90
    ·rw [if_pos c5] at H
     have c5b0 : decide (a0 ≤ 90) = true := decide_eq_true c5;clear c5;obtain rfl := Option.some.inj H;go_enter Tryz.func72, Tryz.ntmps72
     go_wp2
     go_ret
     exact ⟨by first | rfl | (simp; done) | (simp [*]; done) | (simp [bne_nil_isEmpty, beq_nil_isEmpty]; done) | (simp [*, bne_nil_isEmpty, beq_nil_isEmpty]; done), by repeat (first | exact Drawn0.refl _ | apply Drawn0.step)⟩
    ·rw [if_neg c5] at H
     have c5b0 : decide (a0 ≤ 90) = false := decide_eq_false c5;clear c5;by_cases c6 : 48 ≤ a0
     ·rw [if_pos c6] at H
      have c6b0 : decide (48 ≤ a0) = true := decide_eq_true c6;clear c6;by_cases c7 : a0 ≤ 57
      ·rw [if_pos c7] at H
       have c7b0 : decide (a0 ≤ 57) = true := decide_eq_true c7;clear c7;obtain rfl := Option.some.inj H;go_enter Tryz.func72, Tryz.ntmps72
       go_wp2
       go_ret
       exact ⟨by first | rfl | (simp; done) | (simp [*]; done) | (simp [bne_nil_isEmpty, beq_nil_isEmpty]; done) | (simp [*, bne_nil_isEmpty, beq_nil_isEmpty]; done), by repeat (first | exact Drawn0.refl _ | apply Drawn0.step)⟩
      ·rw [if_neg c7] at H
       have c7b0 : decide (a0 ≤ 57) = false := decide_eq_false c7;clear c7;by_cases c8 : a0 = 45
       ·rw [if_pos c8] at H
        have c8b0 : (a0 == 45) = true := beq_iff_eq.mpr c8;have c8b1 : (a0 != 45) = false := bne_eq_false_iff_eq.mpr c8;clear c8;obtain rfl := Option.some.inj H;go_enter Tryz.func72, Tryz.ntmps72
        go_wp2
        go_ret
        exact ⟨by first | rfl | (simp; done) | (simp [*]; done) | (simp [bne_nil_isEmpty, beq_nil_isEmpty]; done) | (simp [*, bne_nil_isEmpty, beq_nil_isEmpty]; done), by repeat (first | exact Drawn0.refl _ | apply Drawn0.step)⟩
       ·rw [if_neg c8] at H
        have c8b0 : (a0 == 45) = false := beq_eq_false_iff_ne.mpr c8;have c8b1 : (a0 != 45) = true := bne_iff_ne.mpr c8;by_cases c9 : a0 = 46
        ·rw [if_pos c9] at H
         have c9b0 : (a0 == 46) = true := beq_iff_eq.mpr c9;have c9b1 : (a0 != 46) = false := bne_eq_false_iff_eq.mpr c9;clear c9;obtain rfl := Option.some.inj H;go_enter Tryz.func72, Tryz.ntmps72
         go_wp2
         go_ret
         exact ⟨by first | rfl | (simp; done) | (simp [*]; done) | (simp [bne_nil_isEmpty, beq_nil_isEmpty]; done) | (simp [*, bne_nil_isEmpty, beq_nil_isEmpty]; done), by repeat (first | exact Drawn0.refl _ | apply Drawn0.step)⟩
        ·rw [if_neg c9] at H
         have c9b0 : (a0 == 46) = false := beq_eq_false_iff_ne.mpr c9;have c9b1 : (a0 != 46) = true := bne_iff_ne.mpr c9;by_cases c10 : a0 = 95
         ·rw [if_pos c10] at H
          have c10b0 : (a0 == 95) = true := beq_iff_eq.mpr c10;have c10b1 : (a0 != 95) = false := bne_eq_false_iff_eq.mpr c10;clear c10;obtain rfl := Option.some.inj H;go_enter Tryz.func72, Tryz.ntmps72
          go_wp2
          go_ret
          exact ⟨by first | rfl | (simp; done) | (simp [*]; done) | (simp [bne_nil_isEmpty, beq_nil_isEmpty]; done) | (simp [*, bne_nil_isEmpty, beq_nil_isEmpty]; done), by repeat (first | exact Drawn0.refl _ | apply Drawn0.step)⟩
         ·rw [if_neg c10] at H
          have c10b0 : (a0 == 95) = false := beq_eq_false_iff_ne.mpr c10;have c10b1 : (a0 != 95) = true := bne_iff_ne.mpr c10;obtain rfl := Option.some.inj H;go_enter Tryz.func72, Tryz.ntmps72
          go_wp2
          go_ret
          exact ⟨by first | rfl | (simp; done) | (simp [*]; done) | (simp [bne_nil_isEmpty, beq_nil_isEmpty]; done) | (simp [*, bne_nil_isEmpty, beq_nil_isEmpty]; done), by repeat (first | exact Drawn0.refl _ | apply Drawn0.step)⟩
     ·rw [if_neg c6] at H
      have c6b0 : decide (48 ≤ a0) = false := decide_eq_false c6;clear c6;by_cases c11 : a0 = 45
      ·rw [if_pos c11] at H
       have c11b0 : (a0 == 45) = true := beq_iff_eq.mpr c11;have c11b1 : (a0 != 45) = false := bne_eq_false_iff_eq.mpr c11;clear c11;obtain rfl := Option.some.inj H;go_enter Tryz.func72, Tryz.ntmps72
       go_wp2
       go_ret
       exact ⟨by first | rfl | (simp; done) | (simp [*]; done) | (simp [bne_nil_isEmpty, beq_nil_isEmpty]; done) | (simp [*, bne_nil_isEmpty, beq_nil_isEmpty]; done), by repeat (first | exact Drawn0.refl _ | apply Drawn0.step)⟩
      ·rw [if_neg c11] at H
       have c11b0 : (a0 == 45) = false := beq_eq_false_iff_ne.mpr c11;have c11b1 : (a0 != 45) = true := bne_iff_ne.mpr c11;by_cases c12 : a0 = 46
       ·rw [if_pos c12] at H
        have c12b0 : (a0 == 46) = true := beq_iff_eq.mpr c12;have c12b1 : (a0 != 46) = false := bne_eq_false_iff_eq.mpr c12;clear c12;obtain rfl := Option.some.inj H;go_enter Tryz.func72, Tryz.ntmps72
        go_wp2
        go_ret
        exact ⟨by first | rfl | (simp; done) | (simp [*]; done) | (simp [bne_nil_isEmpty, beq_nil_isEmpty]; done) | (simp [*, bne_nil_isEmpty, beq_nil_isEmpty]; done), by repeat (first | exact Drawn0.refl _ | apply Drawn0.step)⟩
       ·rw [if_neg c12] at H
        have c12b0 : (a0 == 46) = false := beq_eq_false_iff_ne.mpr c12;have c12b1 : (a0 != 46) = true := bne_iff_ne.mpr c12;by_cases c13 : a0 = 95
        ·rw [if_pos c13] at H
         have c13b0 : (a0 == 95) = true := beq_iff_eq.mpr c13;have c13b1 : (a0 != 95) = false := bne_eq_false_iff_eq.mpr c13;clear c13;obtain rfl := Option.some.inj H;go_enter Tryz.func72, Tryz.ntmps72
         go_wp2
         go_ret
         exact ⟨by first | rfl | (simp; done) | (simp [*]; done) | (simp [bne_nil_isEmpty, beq_nil_isEmpty]; done) | (simp [*, bne_nil_isEmpty, beq_nil_isEmpty]; done), by repeat (first | exact Drawn0.refl _ | apply Drawn0.step)⟩
        ·rw [if_neg c13] at H
         have c13b0 : (a0 == 95) = false := beq_eq_false_iff_ne.mpr c13;have c13b1 : (a0 != 95) = true := bne_iff_ne.mpr c13;obtain rfl := Option.some.inj H;go_enter Tryz.func72, Tryz.ntmps72
         go_wp2
         go_ret
         exact ⟨by first | rfl | (simp; done) | (simp [*]; done) | (simp [bne_nil_isEmpty, beq_nil_isEmpty]; done) | (simp [*, bne_nil_isEmpty, beq_nil_isEmpty]; done), by repeat (first | exact Drawn0.refl _ | apply Drawn0.step)⟩
   ·rw [if_neg c4] at H
    have c4b0 : decide (65 ≤ a0) = false := decide_eq_false c4;clear c4;by_cases c14 : 48 ≤ a0
    ·rw [if_pos c14] at H
     have c14b0 : decide (48 ≤ a0) = true := decide_eq_true c14;clear c14;by_cases c15 : a0 ≤ 57
     ·rw [if_pos c15] at H
      have c15b0 : decide (a0 ≤ 57) = true := decide_eq_true c15;clear c15;obtain rfl := Option.some.inj H;go_enter Tryz.func72, Tryz.ntmps72
      go_wp2
      go_ret
      exact ⟨by first | rfl | (simp; done) | (simp [*]; done) | (simp [bne_nil_isEmpty, beq_nil_isEmpty]; done) | (simp [*, bne_nil_isEmpty, beq_nil_isEmpty]; done), by repeat (first | exact Drawn0.refl _ | apply Drawn0.step)⟩
     ·rw [if_neg c15] at H
      have c15b0 : decide (a0 ≤ 57) = false := decide_eq_false c15;clear c15;by_cases c16 : a0 = 45
      ·rw [if_pos c16] at H
       have c16b0 : (a0 == 45) = true := beq_iff_eq.mpr c16;have c16b1 : (a0 != 45) = false := bne_eq_false_iff_eq.mpr c16;clear c16;obtain rfl := Option.some.inj H;go_enter Tryz.func72, Tryz.ntmps72
       go_wp2
       go_ret
       exact ⟨by first | rfl | (simp; done) | (simp [*]; done) | (simp [bne_nil_isEmpty, beq_nil_isEmpty]; done) | (simp [*, bne_nil_isEmpty, beq_nil_isEmpty]; done), by repeat (first | exact Drawn0.refl _ | apply Drawn0.step)⟩
      ·rw [if_neg c16] at H
       have c16b0 : (a0 == 45) = false := beq_eq_false_iff_ne.mpr c16;have c16b1 : (a0 != 45) = true := bne_iff_ne.mpr c16;by_cases c17 : a0 = 46
       ·rw [if_pos c17] at H
        have c17b0 : (a0 == 46) = true := beq_iff_eq.mpr c17;have c17b1 : (a0 != 46) = false := bne_eq_false_iff_eq.mpr c17;clear c17;obtain rfl := Option.some.inj H;go_enter Tryz.func72, Tryz.ntmps72
        go_wp2
        go_ret
        exact ⟨by first | rfl | (simp; done) | (simp [*]; done) | (simp [bne_nil_isEmpty, beq_nil_isEmpty]; done) | (simp [*, bne_nil_isEmpty, beq_nil_isEmpty]; done), by repeat (first | exact Drawn0.refl _ | apply Drawn0.step)⟩
       ·rw [if_neg c17] at H
        have c17b0 : (a0 == 46) = false := beq_eq_false_iff_ne.mpr c17;have c17b1 : (a0 != 46) = true := bne_iff_ne.mpr c17;by_cases c18 : a0 = 95
        ·rw [if_pos c18] at H
         have c18b0 : (a0 == 95) = true := beq_iff_eq.mpr c18;have c18b1 : (a0 != 95) = false := bne_eq_false_iff_eq.mpr c18;clear c18;obtain rfl := Option.some.inj H;go_enter Tryz.func72, Tryz.ntmps72
         go_wp2
         go_ret
         exact ⟨by first | rfl | (simp; done) | (simp [*]; done) | (simp [bne_nil_isEmpty, beq_nil_isEmpty]; done) | (simp [*, bne_nil_isEmpty, beq_nil_isEmpty]; done), by repeat (first | exact Drawn0.refl _ | apply Drawn0.step)⟩
        ·rw [if_neg c18] at H
         have c18b0 : (a0 == 95) = false := beq_eq_false_iff_ne.mpr c18;have c18b1 : (a0 != 95) = true := bne_iff_ne.mpr c18;obtain rfl := Option.some.inj H;go_enter Tryz.func72, Tryz.ntmps72
         go_wp2
         go_ret
         exact ⟨by first | rfl | (simp; done) | (simp [*]; done) | (simp [bne_nil_isEmpty, beq_nil_isEmpty]; done) | (simp [*, bne_nil_isEmpty, beq_nil_isEmpty]; done), by repeat (first | exact Drawn0.refl _ | apply Drawn0.step)⟩
    ·rw [if_neg c14] at H
     have c14b0 : decide (48 ≤ a0) = false := decide_eq_false c14;clear c14;by_cases c19 : a0 = 45
     ·rw [if_pos c19] at H
      have c19b0 : (a0 == 45) = true := beq_iff_eq.mpr c19;have c19b1 : (a0 != 45) = false := bne_eq_false_iff_eq.mpr c19;clear c19;obtain rfl := Option.some.inj H;go_enter Tryz.func72, Tryz.ntmps72
      go_wp2
      go_ret
      exact ⟨by first | rfl | (simp; done) | (simp [*]; done) | (simp [bne_nil_isEmpty, beq_nil_isEmpty]; done) | (simp [*, bne_nil_isEmpty, beq_nil_isEmpty]; done), by repeat (first | exact Drawn0.refl _ | apply Drawn0.step)⟩
     ·rw [if_neg c19] at H
      have c19b0 : (a0 == 45) = false := beq_eq_false_iff_ne.mpr c19;have c19b1 : (a0 != 45) = true := bne_iff_ne.mpr c19;by_cases c20 : a0 = 46
      ·rw [if_pos c20] at H
       have c20b0 : (a0 == 46) = true := beq_iff_eq.mpr c20;have c20b1 : (a0 != 46) = false := bne_eq_false_iff_eq.mpr c20;clear c20;obtain rfl := Option.some.inj H;go_enter Tryz.func72, Tryz.ntmps72
       go_wp2
       go_ret
       exact ⟨by first | rfl | (simp; done) | (simp [*]; done) | (simp [bne_nil_isEmpty, beq_nil_isEmpty]; done) | (simp [*, bne_nil_isEmpty, beq_nil_isEmpty]; done), by repeat (first | exact Drawn0.refl _ | apply Drawn0.step)⟩
      ·rw [if_neg c20] at H
       have c20b0 : (a0 == 46) = false := beq_eq_false_iff_ne.mpr c20;have c20b1 : (a0 != 46) = true := bne_iff_ne.mpr c20;by_cases c21 : a0 = 95
       ·rw [if_pos c21] at H
        have c21b0 : (a0 == 95) = true := beq_iff_eq.mpr c21;have c21b1 : (a0 != 95) = false := bne_eq_false_iff_eq.mpr c21;clear c21;obtain rfl := Option.some.inj H;go_enter Tryz.func72, Tryz.ntmps72
        go_wp2
        go_ret
        exact ⟨by first | rfl | (simp; done) | (simp [*]; done) | (simp [bne_nil_isEmpty, beq_nil_isEmpty]; done) | (simp [*, bne_nil_isEmpty, beq_nil_isEmpty]; done), by repeat (first | exact Drawn0.refl _ | apply Drawn0.step)⟩
       ·rw [if_neg c21] at H
        have c21b0 : (a0 == 95) = false := beq_eq_false_iff_ne.mpr c21;have c21b1 : (a0 != 95) = true := bne_iff_ne.mpr c21;obtain rfl := Option.some.inj H;go_enter Tryz.func72, Tryz.ntmps72
        go_wp2
        go_ret
        exact ⟨by first | rfl | (simp; done) | (simp [*]; done) | (simp [bne_nil_isEmpty, beq_nil_isEmpty]; done) | (simp [*, bne_nil_isEmpty, beq_nil_isEmpty]; done), by repeat (first | exact Drawn0.refl _ | apply Drawn0.step)⟩
 ·rw [if_neg c2] at H
  have c2b0 : decide (97 ≤ a0) = false := decide_eq_false c2;clear c2;by_cases c22 : 65 ≤ a0
  ·rw [if_pos c22] at H
   have c22b0 : decide (65 ≤ a0) = true := decide_eq_true c22;clear c22;by_cases c23 : a0 ≤ 90
   ·rw [if_pos c23] at H
    have c23b0 : decide (a0 ≤ 90) = true := decide_eq_true c23;clear c23;obtain rfl := Option.some.inj H;go_enter Tryz.func72, Tryz.ntmps72
    go_wp2
    go_ret
    exact ⟨by first | rfl | (simp; done) | (simp [*]; done) | (simp [bne_nil_isEmpty, beq_nil_isEmpty]; done) | (simp [*, bne_nil_isEmpty, beq_nil_isEmpty]; done), by repeat (first | exact Drawn0.refl _ | apply Drawn0.step)⟩
   ·rw [if_neg c23] at H
    have c23b0 : decide (a0 ≤ 90) = false := decide_eq_false c23;clear c23;by_cases c24 : 48 ≤ a0
    ·rw [if_pos c24] at H
     have c24b0 : decide (48 ≤ a0) = true := decide_eq_true c24;clear c24;by_cases c25 : a0 ≤ 57
     ·rw [if_pos c25] at H
      have c25b0 : decide (a0 ≤ 57) = true := decide_eq_true c25;clear c25;obtain rfl := Option.some.inj H;go_enter Tryz.func72, Tryz.ntmps72
      go_wp2
      go_ret
      exact ⟨by first | rfl | (simp; done) | (simp [*]; done) | (simp [bne_nil_isEmpty, beq_nil_isEmpty]; done) | (simp [*, bne_nil_isEmpty, beq_nil_isEmpty]; done), by repeat (first | exact Drawn0.refl _ | apply Drawn0.step)⟩
     ·rw [if_neg c25] at H
      have c25b0 : decide (a0 ≤ 57) = false := decide_eq_false c25;clear c25;by_cases c26 : a0 = 45
      ·rw [if_pos c26] at H
       have c26b0 : (a0 == 45) = true := beq_iff_eq.mpr c26;have c26b1 : (a0 != 45) = false := bne_eq_false_iff_eq.mpr c26;clear c26;obtain rfl := Option.some.inj H;go_enter Tryz.func72, Tryz.ntmps72
       go_wp2
       go_ret
       exact ⟨by first | rfl | (simp; done) | (simp [*]; done) | (simp [bne_nil_isEmpty, beq_nil_isEmpty]; done) | (simp [*, bne_nil_isEmpty, beq_nil_isEmpty]; done), by repeat (first | exact Drawn0.refl _ | apply Drawn0.step)⟩
      ·rw [if_neg c26] at H
       have c26b0 : (a0 == 45) = false := beq_eq_false_iff_ne.mpr c26;have c26b1 : (a0 != 45) = true := bne_iff_ne.mpr c26;by_cases c27 : a0 = 46
       ·rw [if_pos c27] at H
        have c27b0 : (a0 == 46) = true := beq_iff_eq.mpr c27;have c27b1 : (a0 != 46) = false := bne_eq_false_iff_eq.mpr c27;clear c27;obtain rfl := Option.some.inj H;go_enter Tryz.func72, Tryz.ntmps72
        go_wp2
        go_ret
        exact ⟨by first | rfl | (simp; done) | (simp [*]; done) | (simp [bne_nil_isEmpty, beq_nil_isEmpty]; done) | (simp [*, bne_nil_isEmpty, beq_nil_isEmpty]; done), by repeat (first | exact Drawn0.refl _ | apply Drawn0.step)⟩
       ·rw [if_neg c27] at H
        have c27b0 : (a0 == 46) = false := beq_eq_false_iff_ne.mpr c27;have c27b1 : (a0 != 46) = true := bne_iff_ne.mpr c27;by_cases c28 : a0 = 95
        ·rw [if_pos c28] at H
         have c28b0 : (a0 == 95) = true := beq_iff_eq.mpr c28;have c28b1 : (a0 != 95) = false := bne_eq_false_iff_eq.mpr c28;clear c28;obtain rfl := Option.some.inj H;go_enter Tryz.func72, Tryz.ntmps72
         go_wp2
         go_ret
         exact ⟨by first | rfl | (simp; done) | (simp [*]; done) | (simp [bne_nil_isEmpty, beq_nil_isEmpty]; done) | (simp [*, bne_nil_isEmpty, beq_nil_isEmpty]; done), by repeat (first | exact Drawn0.refl _ | apply Drawn0.step)⟩
        ·rw [if_neg c28] at H
         have c28b0 : (a0 == 95) = false := beq_eq_false_iff_ne.mpr c28;have c28b1 : (a0 != 95) = true := bne_iff_ne.mpr c28;obtain rfl := Option.some.inj H;go_enter Tryz.func72, Tryz.ntmps72
         go_wp2
         go_ret
         exact ⟨by first | rfl | (simp; done) | (simp [*]; done) | (simp [bne_nil_isEmpty, beq_nil_isEmpty]; done) | (simp [*, bne_nil_isEmpty, beq_nil_isEmpty]; done), by repeat (first | exact Drawn0.refl _ | apply Drawn0.step)⟩
    ·rw [if_neg c24] at H
     have c24b0 : decide (48 ≤ a0) = false := decide_eq_false c24;clear c24;by_cases c29 : a0 = 45
     ·rw [if_pos c29] at H
      have c29b0 : (a0 == 45) = true := beq_iff_eq.mpr c29;have c29b1 : (a0 != 45) = false := bne_eq_false_iff_eq.mpr c29;clear c29;obtain rfl := Option.some.inj H;go_enter Tryz.func72, Tryz.ntmps72
      go_wp2
      go_ret
      exact ⟨by first | rfl | (simp; done) | (simp [*]; done) | (simp [bne_nil_isEmpty, beq_nil_isEmpty]; done) | (simp [*, bne_nil_isEmpty, beq_nil_isEmpty]; done), by repeat (first | exact Drawn0.refl _ | apply Drawn0.step)⟩
     ·rw [if_neg c29] at H
      have c29b0 : (a0 == 45) = false := beq_eq_false_iff_ne.mpr c29;have c29b1 : (a0 != 45) = true := bne_iff_ne.mpr c29;by_cases c30 : a0 = 46
      ·rw [if_pos c30] at H
       have c30b0 : (a0 == 46) = true := beq_iff_eq.mpr c30;have c30b1 : (a0 != 46) = false := bne_eq_false_iff_eq.mpr c30;clear c30;obtain rfl := Option.some.inj H;go_enter Tryz.func72, Tryz.ntmps72
       go_wp2
       go_ret
       exact ⟨by first | rfl | (simp; done) | (simp [*]; done) | (simp [bne_nil_isEmpty, beq_nil_isEmpty]; done) | (simp [*, bne_nil_isEmpty, beq_nil_isEmpty]; done), by repeat (first | exact Drawn0.refl _ | apply Drawn0.step)⟩
      ·rw [if_neg c30] at H
       have c30b0 : (a0 == 46) = false := beq_eq_false_iff_ne.mpr c30;have c30b1 : (a0 != 46) = true := bne_iff_ne.mpr c30;by_cases c31 : a0 = 95
       ·rw [if_pos c31] at H
        have c31b0 : (a0 == 95) = true := beq_iff_eq.mpr c31;have c31b1 : (a0 != 95) = false := bne_eq_false_iff_eq.mpr c31;clear c31;obtain rfl := Option.some.inj H;go_enter Tryz.func72, Tryz.ntmps72
        go_wp2
        go_ret
        exact ⟨by first | rfl | (simp; done) | (simp [*]; done) | (simp [bne_nil_isEmpty, beq_nil_isEmpty]; done) | (simp [*, bne_nil_isEmpty, beq_nil_isEmpty]; done), by repeat (first | exact Drawn0.refl _ | apply Drawn0.step)⟩
       ·rw [if_neg c31] at H
        have c31b0 : (a0 == 95) = false := beq_eq_false_iff_ne.mpr c31;have c31b1 : (a0 != 95) = true := bne_iff_ne.mpr c31;obtain rfl := Option.some.inj H;go_enter Tryz.func72, Tryz.ntmps72
        go_wp2
        go_ret
        exact ⟨by first | rfl | (simp; done) | (simp [*]; done) | (simp [bne_nil_isEmpty, beq_nil_isEmpty]; done) | (simp [*, bne_nil_isEmpty, beq_nil_isEmpty]; done), by repeat (first | exact Drawn0.refl _ | apply Drawn0.step)⟩
  ·rw [if_neg c22] at H
   have c22b0 : decide (65 ≤ a0) = false := decide_eq_false c22;clear c22;by_cases c32 : 48 ≤ a0
   ·rw [if_pos c32] at H
    have c32b0 : decide (48 ≤ a0) = true := decide_eq_true c32;clear c32;by_cases c33 : a0 ≤ 57
    ·rw [if_pos c33] at H
     have c33b0 : decide (a0 ≤ 57) = true := decide_eq_true c33;clear c33;obtain rfl := Option.some.inj H;go_enter Tryz.func72, Tryz.ntmps72
     go_wp2
     go_ret
     exact ⟨by first | rfl | (simp; done) | (simp [*]; done) | (simp [bne_nil_isEmpty, beq_nil_isEmpty]; done) | (simp [*, bne_nil_isEmpty, beq_nil_isEmpty]; done), by repeat (first | exact Drawn0.refl _ | apply Drawn0.step)⟩
    ·rw [if_neg c33] at H
     have c33b0 : decide (a0 ≤ 57) = false := decide_eq_false c33;clear c33;by_cases c34 : a0 = 45
     ·rw [if_pos c34] at H
      have c34b0 : (a0 == 45) = true := beq_iff_eq.mpr c34;have c34b1 : (a0 != 45) = false := bne_eq_false_iff_eq.mpr c34;clear c34;obtain rfl := Option.some.inj H;go_enter Tryz.func72, Tryz.ntmps72
      go_wp2
      go_ret
      exact ⟨by first | rfl | (simp; done) | (simp [*]; done) | (simp [bne_nil_isEmpty, beq_nil_isEmpty]; done) | (simp [*, bne_nil_isEmpty, beq_nil_isEmpty]; done), by repeat (first | exact Drawn0.refl _ | apply Drawn0.step)⟩
     ·rw [if_neg c34] at H
      have c34b0 : (a0 == 45) = false := beq_eq_false_iff_ne.mpr c34;have c34b1 : (a0 != 45) = true := bne_iff_ne.mpr c34;by_cases c35 : a0 = 46
      ·rw [if_pos c35] at H
       have c35b0 : (a0 == 46) = true := beq_iff_eq.mpr c35;have c35b1 : (a0 != 46) = false := bne_eq_false_iff_eq.mpr c35;clear c35;obtain rfl := Option.some.inj H;go_enter Tryz.func72, Tryz.ntmps72
       go_wp2
       go_ret
       exact ⟨by first | rfl | (simp; done) | (simp [*]; done) | (simp [bne_nil_isEmpty, beq_nil_isEmpty]; done) | (simp [*, bne_nil_isEmpty, beq_nil_isEmpty]; done), by repeat (first | exact Drawn0.refl _ | apply Drawn0.step)⟩
      ·rw [if_neg c35] at H
       have c35b0 : (a0 == 46) = false := beq_eq_false_iff_ne.mpr c35;have c35b1 : (a0 != 46) = true := bne_iff_ne.mpr c35;by_cases c36 : a0 = 95
       ·rw [if_pos c36] at H
        have c36b0 : (a0 == 95) = true := beq_iff_eq.mpr c36;have c36b1 : (a0 != 95) = false := bne_eq_false_iff_eq.mpr c36;clear c36;obtain rfl := Option.some.inj H;go_enter Tryz.func72, Tryz.ntmps72
        go_wp2
        go_ret
        exact ⟨by first | rfl | (simp; done) | (simp [*]; done) | (simp [bne_nil_isEmpty, beq_nil_isEmpty]; done) | (simp [*, bne_nil_isEmpty, beq_nil_isEmpty]; done), by repeat (first | exact Drawn0.refl _ | apply Drawn0.step)⟩
       ·rw [if_neg c36] at H
        have c36b0 : (a0 == 95) = false := beq_eq_false_iff_ne.mpr c36;have c36b1 : (a0 != 95) = true := bne_iff_ne.mpr c36;obtain rfl := Option.some.inj H;go_enter Tryz.func72, Tryz.ntmps72
        go_wp2
        go_ret
        exact ⟨by first | rfl | (simp; done) | (simp [*]; done) | (simp [bne_nil_isEmpty, beq_nil_isEmpty]; done) | (simp [*, bne_nil_isEmpty, beq_nil_isEmpty]; done), by repeat (first | exact Drawn0.refl _ | apply Drawn0.step)⟩
   ·rw [if_neg c32] at H
    have c32b0 : decide (48 ≤ a0) = false := decide_eq_false c32;clear c32;by_cases c37 : a0 = 45
    ·rw [if_pos c37] at H
     have c37b0 : (a0 == 45) = true := beq_iff_eq.mpr c37;have c37b1 : (a0 != 45) = false := bne_eq_false_iff_eq.mpr c37;clear c37;obtain rfl := Option.some.inj H;go_enter Tryz.func72, Tryz.ntmps72
     go_wp2
     go_ret
     exact ⟨by first | rfl | (simp; done) | (simp [*]; done) | (simp [bne_nil_isEmpty, beq_nil_isEmpty]; done) | (simp [*, bne_nil_isEmpty, beq_nil_isEmpty]; done), by repeat (first | exact Drawn0.refl _ | apply Drawn0.step)⟩
    ·rw [if_neg c37] at H
     have c37b0 : (a0 == 45) = false := beq_eq_false_iff_ne.mpr c37;have c37b1 : (a0 != 45) = true := bne_iff_ne.mpr c37;by_cases c38 : a0 = 46
     ·rw [if_pos c38] at H
      have c38b0 : (a0 == 46) = true := beq_iff_eq.mpr c38;have c38b1 : (a0 != 46) = false := bne_eq_false_iff_eq.mpr c38;clear c38;obtain rfl := Option.some.inj H;go_enter Tryz.func72, Tryz.ntmps72
      go_wp2
      go_ret
      exact ⟨by first | rfl | (simp; done) | (simp [*]; done) | (simp [bne_nil_isEmpty, beq_nil_isEmpty]; done) | (simp [*, bne_nil_isEmpty, beq_nil_isEmpty]; done), by repeat (first | exact Drawn0.refl _ | apply Drawn0.step)⟩
     ·rw [if_neg c38] at H
      have c38b0 : (a0 == 46) = false := beq_eq_false_iff_ne.mpr c38;have c38b1 : (a0 != 46) = true := bne_iff_ne.mpr c38;by_cases c39 : a0 = 95
      ·rw [if_pos c39] at H
       have c39b0 : (a0 == 95) = true := beq_iff_eq.mpr c39;have c39b1 : (a0 != 95) = false := bne_eq_false_iff_eq.mpr c39;clear c39;obtain rfl := Option.some.inj H;go_enter Tryz.func72, Tryz.ntmps72
       go_wp2
       go_ret
       exact ⟨by first | rfl | (simp; done) | (simp [*]; done) | (simp [bne_nil_isEmpty, beq_nil_isEmpty]; done) | (simp [*, bne_nil_isEmpty, beq_nil_isEmpty]; done), by repeat (first | exact Drawn0.refl _ | apply Drawn0.step)⟩
      ·rw [if_neg c39] at H
       have c39b0 : (a0 == 95) = false := beq_eq_false_iff_ne.mpr c39;have c39b1 : (a0 != 95) = true := bne_iff_ne.mpr c39;obtain rfl := Option.some.inj H;go_enter Tryz.func72, Tryz.ntmps72
       go_wp2
       go_ret
       exact ⟨by first | rfl | (simp; done) | (simp [*]; done) | (simp [bne_nil_isEmpty, beq_nil_isEmpty]; done) | (simp [*, bne_nil_isEmpty, beq_nil_isEmpty]; done), by repeat (first | exact Drawn0.refl _ | apply Drawn0.step)⟩

/-! ### tollref04_hex: function 73 -/
def tollref04_hex.f (a0 : Int) : Option (Int) := if a0 < 10 then (some ((48 + a0) % 256)) else (some ((55 + a0) % 256))
set_option maxHeartbeats 8000000 in
set_option maxRecDepth 100000 in
theorem tollref04_hex.calls (a0 : Int) (r : Int) (w : World) (h : tollref04_hex.f a0 = some r) :
  Calls Tryz.prog 73 #[.int .u8 a0] w fun e w' => e = .returned (.int .u8 r) ∧ Drawn0 w w' := by
 have H : (if a0 < 10 then (some ((48 + a0) % 256)) else (some ((55 + a0) % 256))) = some r := h;clear h;by_cases c2 : a0 < 10
 ·rw [if_pos c2] at H
  have c2b0 : decide (a0 < 10) = true := decide_eq_true c2;clear c2;obtain rfl := Option.some.inj H;go_enter Tryz.func73, Tryz.ntmps73
  go_wp2
  go_ret
  exact ⟨by first | (simp; done) | rfl | (simp [*]; done) | (simp [bne_nil_isEmpty, beq_nil_isEmpty]; done) | (simp [*, bne_nil_isEmpty, beq_nil_isEmpty]; done), by repeat (first | exact Drawn0.refl _ | apply Drawn0.step)⟩
 ·rw [if_neg c2] at H
  have c2b0 : decide (a0 < 10) = false := decide_eq_false c2;clear c2;obtain rfl := Option.some.inj H;go_enter Tryz.func73, Tryz.ntmps73
  go_wp2
  go_ret
  exact ⟨by first | (simp; done) | rfl | (simp [*]; done) | (simp [bne_nil_isEmpty, beq_nil_isEmpty]; done) | (simp [*, bne_nil_isEmpty, beq_nil_isEmpty]; done), by repeat (first | exact Drawn0.refl _ | apply Drawn0.step)⟩

/-! ### tollref04_written: function 44 -/
def tollref04_written.l0 : Nat → ByteArray → ByteArray → Int → Option (ByteArray)
 | 0, _, _, _ => none
 | k + 1, x0, x3, x4 => if x4 < (x0.size : Int) then (if 0 ≤ x4 then ((tollref04_Plain.f (bt x0 x4)).bind fun pl => (if pl = true then (if x4 ≤ (wrap64 (x4 + 1)) then (if (wrap64 (x4 + 1)) ≤ (x0.size : Int) then (if x3.size + (x0.extract (x4 : Int).toNat ((wrap64 (x4 + 1)) : Int).toNat).size ≤ 9223372036854775807 then (tollref04_written.l0 k x0 (x3 ++ (x0.extract (x4 : Int).toNat ((wrap64 (x4 + 1)) : Int).toNat)) (wrap64 (x4 + 1))) else (none)) else (none)) else (none)) else (if (bt x0 x4) = 32 then (if x3.size + 1 ≤ 9223372036854775807 then (tollref04_written.l0 k x0 (x3 ++ (⟨#[43]⟩ : ByteArray)) (wrap64 (x4 + 1))) else (none)) else ((tollref04_hex.f ((Int.tdiv (bt x0 x4) 16) % 256)).bind fun pg => ((tollref04_hex.f (Int.tmod (bt x0 x4) 16)).bind fun pf => ((some (([37, pg, pf] : List Int) : List Int)).bind fun pc => (if x3.size + (strOfNums pc).size ≤ 9223372036854775807 then (tollref04_written.l0 k x0 (x3 ++ (strOfNums pc)) (wrap64 (x4 + 1))) else (none)))))))) else (none)) else (some x3)
def tollref04_written.f (k : Nat) (a0 : ByteArray) : Option (ByteArray) := tollref04_written.l0 k a0 (⟨#[]⟩ : ByteArray) 0
theorem tollref04_written.mono_l : ∀ k, (∀ y0 y1 y2, LeO (tollref04_written.l0 k y0 y1 y2) (tollref04_written.l0 (k + 1) y0 y1 y2))
 | 0 => fun _ _ _ r h => by simp [tollref04_written.l0] at h
 | k + 1 => by
  have ih0 := tollref04_written.mono_l k
  ·intro y0 y1 y2
   unfold tollref04_written.l0;repeat' first
   | (with_reducible exact ih0 _ _ _)
   | (with_reducible exact LeO.refl _)
   | (with_reducible exact LeO.none _)
   | (with_reducible refine LeO.ite ?_ ?_)
   | (with_reducible refine LeO.bind ?_ (fun _ => ?_))
   | exact ih0 _ _ _
   | exact LeO.none _
   | refine LeO.ite ?_ ?_
   | refine LeO.bind ?_ (fun _ => ?_)
theorem tollref04_written.mono : ∀ a0 k, LeO (tollref04_written.f k a0) (tollref04_written.f (k + 1) a0) := by
 intro a0 k;have ih0 := tollref04_written.mono_l k
 unfold tollref04_written.f;repeat' first
   | (with_reducible exact ih0 _ _ _)
   | (with_reducible exact LeO.refl _)
   | (with_reducible exact LeO.none _)
   | (with_reducible refine LeO.ite ?_ ?_)
   | (with_reducible refine LeO.bind ?_ (fun _ => ?_))
   | exact ih0 _ _ _
   | exact LeO.none _
   | refine LeO.ite ?_ ?_
   | refine LeO.bind ?_ (fun _ => ?_)
def tollref04_written.T9 : Bool × List (List Nat × List Nat) := (true, [([], []), ([], []), ([], []), ([1, 2], [1, 2]), ([3], [3]), ([4], [4]), ([], []), ([], []), ([6, 7], [6, 7]), ([8], [8]), ([9, 5], [9]), ([5, 10], [5, 10]), ([11], [11]), ([0, 12], [0, 12]), ([13, 10, 0, 1, 2, 3, 4, 5, 6, 7, 8, 9, 10, 11, 12, 13], [0, 13])])
def tollref04_written.B9 : List Nat := [0, 0, 0, 6, 14, 30, 0, 0, 192, 448, 1022, 2046, 4094, 8191, 16383]
theorem tollref04_written.tab9 : rtab .any (opsOf Tryz.f44 9) = tollref04_written.T9 := by kernel_rfl
theorem tollref04_written.bits9 : waitsOk tollref04_written.T9.2 tollref04_written.B9 = true := by kernel_rfl
set_option maxHeartbeats 8000000 in
set_option maxRecDepth 100000 in
theorem tollref04_written.calls (k : Nat) (a0 : ByteArray) (r : ByteArray) (w : World) (h : tollref04_written.f k a0 = some r) :
  Calls Tryz.prog 44 #[.string a0] w fun e w' => e = .returned (.string r) ∧ Below w.heap.size w w' := by
 have HB := am_ (Below.refl w.heap.size w);have H : (tollref04_written.l0 k a0 (⟨#[]⟩ : ByteArray) 0) = some r := h;clear h;have H' := Aside0.mk H;clear H;go_enter Tryz.func44, Tryz.ntmps44
 go_wp2
 go_loopg [3, 4] k (fun kq v3 v4 w' => ∃ (x3_1 : ByteArray) (x4_1 : Int), v3 = .string x3_1 ∧ v4 = .int .i64 x4_1 ∧ Aside0 (tollref04_written.l0 kq a0 x3_1 x4_1 = some r) ∧ Aside0 (kq ≤ k) ∧ Aside0 (Below w.heap.size w w'))
 case atStart => exact ⟨((⟨#[]⟩ : ByteArray)), (0), sd_, sd_, H', ⟨Nat.le_refl _⟩, ⟨bel_ HB.out⟩⟩
 case round =>
  clear H';obtain ⟨x3_1, x4_1, rfl, rfl, HA, HK1, HB⟩ := hrel;cases gk with
  | zero => exact absurd HA.out (by simp [tollref04_written.l0])
  | succ k1 =>
   have H := HA.out;clear HA;simp only [tollref04_written.l0] at H;by_cases c2 : x4_1 < (a0.size : Int)
   ·rw [if_pos c2] at H
    have c2b0 : decide (x4_1 < (a0.size : Int)) = true := decide_eq_true c2;clear c2;by_cases c3 : 0 ≤ x4_1
    ·rw [if_pos c3] at H
     have c3b0 : decide (0 ≤ x4_1) = true := decide_eq_true c3;clear c3;replace H := Option.bind_eq_some_iff.mp H;obtain ⟨pl, A50, H⟩ := H;replace H : (if pl = true then (if x4_1 ≤ (wrap64 (x4_1 + 1)) then (if (wrap64 (x4_1 + 1)) ≤ (a0.size : Int) then (if x3_1.size + (a0.extract (x4_1 : Int).toNat ((wrap64 (x4_1 + 1)) : Int).toNat).size ≤ 9223372036854775807 then (tollref04_written.l0 k1 a0 (x3_1 ++ (a0.extract (x4_1 : Int).toNat ((wrap64 (x4_1 + 1)) : Int).toNat)) (wrap64 (x4_1 + 1))) else (none)) else (none)) else (none)) else (if (bt a0 x4_1) = 32 then (if x3_1.size + 1 ≤ 9223372036854775807 then (tollref04_written.l0 k1 a0 (x3_1 ++ (⟨#[43]⟩ : ByteArray)) (wrap64 (x4_1 + 1))) else (none)) else ((tollref04_hex.f ((Int.tdiv (bt a0 x4_1) 16) % 256)).bind fun pg => ((tollref04_hex.f (Int.tmod (bt a0 x4_1) 16)).bind fun pf => ((some (([37, pg, pf] : List Int) : List Int)).bind fun pc => (if x3_1.size + (strOfNums pc).size ≤ 9223372036854775807 then (tollref04_written.l0 k1 a0 (x3_1 ++ (strOfNums pc)) (wrap64 (x4_1 + 1))) else (none))))))) = some r := H;have A5 := Aside0.mk A50;clear A50;by_cases c6 : pl = true
     ·subst c6
      have H1 : (if x4_1 ≤ (wrap64 (x4_1 + 1)) then (if (wrap64 (x4_1 + 1)) ≤ (a0.size : Int) then (if x3_1.size + (a0.extract (x4_1 : Int).toNat ((wrap64 (x4_1 + 1)) : Int).toNat).size ≤ 9223372036854775807 then (tollref04_written.l0 k1 a0 (x3_1 ++ (a0.extract (x4_1 : Int).toNat ((wrap64 (x4_1 + 1)) : Int).toNat)) (wrap64 (x4_1 + 1))) else (none)) else (none)) else (none)) = some r := by rw [if_pos rfl] at H; exact H
      clear H;have H := H1;clear H1;have c7b0 := eq_true (of_decide_eq_true as_ : 0 ≤ x4_1);by_cases c8 : x4_1 ≤ (wrap64 (x4_1 + 1))
      ·rw [if_pos c8] at H
       have c8b0 := eq_true c8;have c8b1 : decide (x4_1 ≤ (wrap64 (x4_1 + 1))) = true := decide_eq_true c8;by_cases c9 : (wrap64 (x4_1 + 1)) ≤ (a0.size : Int)
       ·rw [if_pos c9] at H
        have c9b0 := eq_true c9;have c9b1 : decide ((wrap64 (x4_1 + 1)) ≤ (a0.size : Int)) = true := decide_eq_true c9;by_cases c10 : x3_1.size + (a0.extract (x4_1 : Int).toNat ((wrap64 (x4_1 + 1)) : Int).toNat).size ≤ 9223372036854775807
        ·rw [if_pos c10] at H
         have c10b0 := eq_true c10;have c10b1 : decide (x3_1.size + (a0.extract (x4_1 : Int).toNat ((wrap64 (x4_1 + 1)) : Int).toNat).size ≤ 9223372036854775807) = true := decide_eq_true c10;try have c10b2 : (9223372036854775807 < x3_1.size + (a0.extract (x4_1 : Int).toNat ((wrap64 (x4_1 + 1)) : Int).toNat).size) = False := eq_false (Nat.not_lt.2 c10)
         (try (have c10s := c10; rw [ByteArray.size_extract, Nat.min_eq_left (by omega)] at c10s; have c10n := eq_false (Nat.not_lt.2 c10s)));have H' := Aside0.mk H;clear H;have p4 : 0 ≤ (x4_1 : Int) := of_decide_eq_true as_;have q4 : x4_1 < (a0.size : Int) := of_decide_eq_true as_;have hx4 := bt_at a0 x4_1;replace p4 := eq_true p4;replace q4 := eq_true q4;go_wp2_with (first | ((with_reducible refine gate_callee (f := 72) rfl ?_); refine goesL_ (some 14) rfl rfl Tryz.func72 kr_ rfl #[.int .u8 (bt a0 x4_1)] rfl rl_ ?_; (with_reducible refine (tollref04_Plain.calls (bt a0 x4_1) true _ A5.out).mono ?_); rintro e w' ⟨rfl, ⟨nd, rfl⟩⟩; refine ⟨_, rfl, ?_⟩))
         go_roundg k1
         case measure => have := HK1.out; omega
         case rel => exact ⟨(x3_1 ++ (a0.extract (x4_1 : Int).toNat ((wrap64 (x4_1 + 1)) : Int).toNat)), (wrap64 (x4_1 + 1)), sd_, sd_, H', ⟨by have := HK1.out; omega⟩, ⟨bel_ HB.out⟩⟩
        ·rw [if_neg c10] at H
         exact absurd H (by simp)
       ·rw [if_neg c9] at H
        exact absurd H (by simp)
      ·rw [if_neg c8] at H
       exact absurd H (by simp)
     ·replace c6 := Bool.eq_false_iff.mpr c6
      subst c6;have H1 : (if (bt a0 x4_1) = 32 then (if x3_1.size + 1 ≤ 9223372036854775807 then (tollref04_written.l0 k1 a0 (x3_1 ++ (⟨#[43]⟩ : ByteArray)) (wrap64 (x4_1 + 1))) else (none)) else ((tollref04_hex.f ((Int.tdiv (bt a0 x4_1) 16) % 256)).bind fun pg => ((tollref04_hex.f (Int.tmod (bt a0 x4_1) 16)).bind fun pf => ((some (([37, pg, pf] : List Int) : List Int)).bind fun pc => (if x3_1.size + (strOfNums pc).size ≤ 9223372036854775807 then (tollref04_written.l0 k1 a0 (x3_1 ++ (strOfNums pc)) (wrap64 (x4_1 + 1))) else (none)))))) = some r := by rw [if_neg (show ¬ (false = true) by decide)] at H; exact H
      clear H;have H := H1;clear H1;by_cases c12 : (bt a0 x4_1) = 32
      ·rw [if_pos c12] at H
       have c12b0 : ((bt a0 x4_1) == 32) = true := beq_iff_eq.mpr c12;have c12b1 : ((bt a0 x4_1) != 32) = false := bne_eq_false_iff_eq.mpr c12;clear c12;by_cases c13 : x3_1.size + 1 ≤ 9223372036854775807
       ·rw [if_pos c13] at H
        have c13b0 := eq_true c13;have c13b1 : decide (x3_1.size + 1 ≤ 9223372036854775807) = true := decide_eq_true c13;try have c13b2 : (9223372036854775807 < x3_1.size + 1) = False := eq_false (Nat.not_lt.2 c13)
        have H' := Aside0.mk H;clear H;have p4 : 0 ≤ (x4_1 : Int) := of_decide_eq_true as_;have q4 : x4_1 < (a0.size : Int) := of_decide_eq_true as_;have hx4 := bt_at a0 x4_1;replace p4 := eq_true p4;replace q4 := eq_true q4;go_wp2_with (first | ((with_reducible refine gate_callee (f := 72) rfl ?_); refine goesL_ (some 14) rfl rfl Tryz.func72 kr_ rfl #[.int .u8 (bt a0 x4_1)] rfl rl_ ?_; (with_reducible refine (tollref04_Plain.calls (bt a0 x4_1) false _ A5.out).mono ?_); rintro e w' ⟨rfl, ⟨nd, rfl⟩⟩; refine ⟨_, rfl, ?_⟩; have p11 : 0 ≤ (x4_1 : Int) := of_decide_eq_true as_; have q11 : x4_1 < (a0.size : Int) := of_decide_eq_true as_; have hx11 := bt_at a0 x4_1; replace p11 := eq_true p11; replace q11 := eq_true q11))
        go_roundg k1
        case measure => have := HK1.out; omega
        case rel => exact ⟨(x3_1 ++ (⟨#[43]⟩ : ByteArray)), (wrap64 (x4_1 + 1)), sd_, sd_, H', ⟨by have := HK1.out; omega⟩, ⟨bel_ HB.out⟩⟩
       ·rw [if_neg c13] at H
        exact absurd H (by simp)
      ·rw [if_neg c12] at H
       have c12b0 : ((bt a0 x4_1) == 32) = false := beq_eq_false_iff_ne.mpr c12;have c12b1 : ((bt a0 x4_1) != 32) = true := bne_iff_ne.mpr c12;replace H := Option.bind_eq_some_iff.mp H;obtain ⟨pg, A150, H⟩ := H;replace H : ((tollref04_hex.f (Int.tmod (bt a0 x4_1) 16)).bind fun pf => ((some (([37, pg, pf] : List Int) : List Int)).bind fun pc => (if x3_1.size + (strOfNums pc).size ≤ 9223372036854775807 then (tollref04_written.l0 k1 a0 (x3_1 ++ (strOfNums pc)) (wrap64 (x4_1 + 1))) else (none)))) = some r := H;have A15 := Aside0.mk A150;clear A150;replace H := Option.bind_eq_some_iff.mp H;obtain ⟨pf, A170, H⟩ := H;replace H : ((some (([37, pg, pf] : List Int) : List Int)).bind fun pc => (if x3_1.size + (strOfNums pc).size ≤ 9223372036854775807 then (tollref04_written.l0 k1 a0 (x3_1 ++ (strOfNums pc)) (wrap64 (x4_1 + 1))) else (none))) = some r := H;have A17 := Aside0.mk A170;clear A170;obtain ⟨pc, hy214⟩ : ∃ y_ : List Int, y_ = (([37, pg, pf] : List Int)) := ⟨_, rfl⟩;replace H : (if x3_1.size + (strOfNums pc).size ≤ 9223372036854775807 then (tollref04_written.l0 k1 a0 (x3_1 ++ (strOfNums pc)) (wrap64 (x4_1 + 1))) else (none)) = some r := by first | (rw [hy214]; with_reducible exact H) | (have H2_ := (Option.bind_some _ _).symm.trans H; rw [hy214]; with_reducible exact H2_) | (have H2_ := (Option.bind_some _ _).symm.trans H; with_reducible exact H2_) | with_reducible exact H | (rw [hy214]; exact H) | exact H
       have Ny214 := Aside0.mk hy214;clear hy214;by_cases c18 : x3_1.size + (strOfNums pc).size ≤ 9223372036854775807
       ·rw [if_pos c18] at H
        have c18b0 := eq_true c18;have c18b1 : decide (x3_1.size + (strOfNums pc).size ≤ 9223372036854775807) = true := decide_eq_true c18;try have c18b2 : (9223372036854775807 < x3_1.size + (strOfNums pc).size) = False := eq_false (Nat.not_lt.2 c18)
        have H' := Aside0.mk H;clear H;have p4 : 0 ≤ (x4_1 : Int) := of_decide_eq_true as_;have q4 : x4_1 < (a0.size : Int) := of_decide_eq_true as_;have hx4 := bt_at a0 x4_1;replace p4 := eq_true p4;replace q4 := eq_true q4;try go_wp2_with (first | ((with_reducible refine gate_callee (f := 72) rfl ?_); refine goesL_ (some 14) rfl rfl Tryz.func72 kr_ rfl #[.int .u8 (bt a0 x4_1)] rfl rl_ ?_; (with_reducible refine (tollref04_Plain.calls (bt a0 x4_1) false _ A5.out).mono ?_); rintro e w' ⟨rfl, ⟨nd, rfl⟩⟩; refine ⟨_, rfl, ?_⟩; have p11 : 0 ≤ (x4_1 : Int) := of_decide_eq_true as_; have q11 : x4_1 < (a0.size : Int) := of_decide_eq_true as_; have hx11 := bt_at a0 x4_1; replace p11 := eq_true p11; replace q11 := eq_true q11))
        (try (rw [drewN_self wr]; generalize hq_ : World.drewN wr _ = wr; have n0_ : Aside0 (Below w.heap.size w wr) := ⟨by rw [← hq_]; exact (bel_ HB.out)⟩; clear HB hq_; have HB := n0_; clear n0_));have n0_ := am_ (below_drew1 HB.out);clear HB;have HB := n0_;clear n0_;have p14 : 0 ≤ (x4_1 : Int) := of_decide_eq_true as_;have q14 : x4_1 < (a0.size : Int) := of_decide_eq_true as_;have hx14 := bt_at a0 x4_1;replace p14 := eq_true p14;replace q14 := eq_true q14;have p16 : 0 ≤ (x4_1 : Int) := of_decide_eq_true as_;have q16 : x4_1 < (a0.size : Int) := of_decide_eq_true as_;have hx16 := bt_at a0 x4_1;replace p16 := eq_true p16;replace q16 := eq_true q16;refine start_ (n := 15) (S := fun w' => True) (ds := []) #[false, false, false, false, false, false, false, false, false, false, false, false, false, false, false] kr_ rfl rfl trivial (fun hHeld => ?_); refine with_tabW tollref04_written.tab9 tollref04_written.bits9 (fun HT_ HW_ => ?_);generalize wr.drew = w19 at HB hHeld ⊢;refine pure_ (i := 0) (N := some 28) (v := ?_) (a' := ?_) #[true, false, false, false, false, false, false, false, false, false, false, false, false, false, false] rfl rfl (any_of HT_.out kr_) (fun _ _ _ h => h) (Or.inl ⟨by rfl, ?_⟩) ?_ ?_;rotate_left
        ·intro w'
         go_simp
         with_reducible rfl
        rotate_left
        ·simp only [Act.put, sx_, s0_, s1_, i64_w, i32_w]
         rfl
        refine pure_ (i := 1) (N := some 29) (v := ?_) (a' := ?_) #[true, true, false, false, false, false, false, false, false, false, false, false, false, false, false] rfl rfl (any_of HT_.out kr_) (fun _ _ _ h => h) (Or.inl ⟨by rfl, ?_⟩) ?_ ?_;rotate_left
        ·intro w'
         go_simp
         with_reducible rfl
        rotate_left
        ·simp only [Act.put, sx_, s0_, s1_, i64_w, i32_w]
         rfl
        refine pure_ (i := 2) (N := some 30) (v := ?_) (a' := ?_) #[true, true, true, false, false, false, false, false, false, false, false, false, false, false, false] rfl rfl (any_of HT_.out kr_) (fun _ _ _ h => h) (Or.inl ⟨by rfl, ?_⟩) ?_ ?_;rotate_left
        ·intro w'
         go_simp
         with_reducible rfl
        rotate_left
        ·simp only [Act.put, sx_, s0_, s1_, i64_w, i32_w]
         rfl
        refine pure_ (i := 6) (N := some 34) (v := ?_) (a' := ?_) #[true, true, true, false, false, false, true, false, false, false, false, false, false, false, false] rfl rfl (any_of HT_.out kr_) (fun _ _ _ h => h) (Or.inl ⟨by rfl, ?_⟩) ?_ ?_;rotate_left
        ·intro w'
         go_simp
         with_reducible rfl
        rotate_left
        ·simp only [Act.put, sx_, s0_, s1_, i64_w, i32_w]
         rfl
        refine pure_ (i := 7) (N := some 35) (v := ?_) (a' := ?_) #[true, true, true, false, false, false, true, true, false, false, false, false, false, false, false] rfl rfl (any_of HT_.out kr_) (fun _ _ _ h => h) (Or.inl ⟨by rfl, ?_⟩) ?_ ?_;rotate_left
        ·intro w'
         go_simp
         with_reducible rfl
        rotate_left
        ·simp only [Act.put, sx_, s0_, s1_, i64_w, i32_w]
         rfl
        refine take_ (i := 3) (N := some 31) (v := ?_) (a' := ?_) #[true, true, true, true, false, false, true, true, false, false, false, false, false, false, false] rfl rfl (take_ofW HT_.out HW_.out kr_) (fun _ _ _ h => h) (Or.inl ⟨by rfl, ?_⟩) hHeld ?_ ?_;rotate_left
        ·intro w' _
         go_simp
         with_reducible rfl
        rotate_left
        ·simp only [Act.put, sx_, s0_, s1_, i64_w, i32_w]
         rfl
        refine pure_ (i := 4) (N := some 32) (v := ?_) (a' := ?_) #[true, true, true, true, true, false, true, true, false, false, false, false, false, false, false] rfl rfl (any_of HT_.out kr_) (fun _ _ _ h => h) (Or.inl ⟨by rfl, ?_⟩) ?_ ?_;rotate_left
        ·intro w'
         go_simp
         with_reducible rfl
        rotate_left
        ·simp only [Act.put, sx_, s0_, s1_, i64_w, i32_w]
         rfl
        refine take_ (i := 8) (N := some 36) (v := ?_) (a' := ?_) #[true, true, true, true, true, false, true, true, true, false, false, false, false, false, false] rfl rfl (take_ofW HT_.out HW_.out kr_) (fun _ _ _ h => h) (Or.inl ⟨by rfl, ?_⟩) hHeld ?_ ?_;rotate_left
        ·intro w' _
         go_simp
         with_reducible rfl
        rotate_left
        ·simp only [Act.put, sx_, s0_, s1_, i64_w, i32_w]
         rfl
        refine pure_ (i := 9) (N := some 37) (v := ?_) (a' := ?_) #[true, true, true, true, true, false, true, true, true, true, false, false, false, false, false] rfl rfl (any_of HT_.out kr_) (fun _ _ _ h => h) (Or.inl ⟨by rfl, ?_⟩) ?_ ?_;rotate_left
        ·intro w'
         go_simp
         with_reducible rfl
        rotate_left
        ·simp only [Act.put, sx_, s0_, s1_, i64_w, i32_w]
         rfl
        refine one_ (i := 5) (N := some 33) #[true, true, true, true, true, true, true, true, true, true, false, false, false, false, false] rfl rfl (one_of HT_.out kr_) (by decide) (fun K hK => ?_);refine goes_ Tryz.func73 kr_ rfl #[.int .u8 ((Int.tdiv (bt a0 x4_1) 16) % 256)] (by rfl) rfl rfl rl_ ?_;with_reducible refine (tollref04_hex.calls ((Int.tdiv (bt a0 x4_1) 16) % 256) pg _ A15.out).mono ?_;rintro e w' ⟨rfl, ⟨nd, rfl⟩⟩;refine ⟨_, rfl, ?_⟩;refine hK.out _ _ trivial (fun hHeld => ?_);clear hK K;refine norm_ (a' := ?_) ?_ ?_;rotate_left
        ·show Act.put _ (some 33) _ = _
         simp only [Act.put, sx_, s0_, s1_, i64_w, i32_w];rfl
        refine one_ (i := 10) (N := some 38) #[true, true, true, true, true, true, true, true, true, true, true, false, false, false, false] rfl rfl (one_of HT_.out kr_) (by decide) (fun K hK => ?_);refine goes_ Tryz.func73 kr_ rfl #[.int .u8 (Int.tmod (bt a0 x4_1) 16)] (by rfl) rfl rfl rl_ ?_;with_reducible refine (tollref04_hex.calls (Int.tmod (bt a0 x4_1) 16) pf _ A17.out).mono ?_;rintro e w' ⟨rfl, ⟨nd, rfl⟩⟩;refine ⟨_, rfl, ?_⟩;refine hK.out _ _ trivial (fun hHeld => ?_);clear hK K;refine norm_ (a' := ?_) ?_ ?_;rotate_left
        ·show Act.put _ (some 38) _ = _
         simp only [Act.put, sx_, s0_, s1_, i64_w, i32_w];rfl
        refine one_ (i := 11) (N := some 39) #[true, true, true, true, true, true, true, true, true, true, true, true, false, false, false] rfl rfl (one_of HT_.out kr_) (by decide) (fun K hK => ?_);refine Kd.R_lit_step (Kd.int .u8) _ 5 ?hg (N := 39) ?hd (xs := ([37, pg, pf] : List Int)) (inner := [.int .u8 37, .int .u8 pg, .int .u8 pf]) (ok := fun _ => True) (okp := fun _ => True) ?hr ?hp (fun _ hk => hk) trivial (Below.refl _ _) (Nat.le_refl _) (by simp) ?_; (case hd => rfl); (case hg => rfl); (case hr => first | (go_simp; done) | (go_simp; rfl)); (case hp => exact (Reps.one (show Kd.M (Kd.int .u8) _ _ _ 37 [.int .u8 37] from rfl) (Reps.one (show Kd.M (Kd.int .u8) _ _ _ pg [.int .u8 pg] from rfl) (Reps.one (show Kd.M (Kd.int .u8) _ _ _ pf [.int .u8 pf] from rfl) (Reps.none _ _)))));intro pq w20 ho21 hb hg_ hnew_;clear hg_ hnew_;(first | rw [← Ny214.out] at ho21 | (simp only [Int.reduceToNat] at ho21; rw [← Ny214.out] at ho21));have n0_ := am_ (Kd.R_lower ho21 (below_size (bel_ HB.out)));have n1_ := am_ (below_step (bel_ HB.out) hb);clear HB;have pn := n0_;have HB := n1_;clear n0_ n1_ hb ho21;refine hK.out _ _ trivial (fun hHeld => ?_);clear hK K;refine norm_ (a' := ?_) ?_ ?_;rotate_left
        ·show Act.put _ (some 39) _ = _
         simp only [Act.put, sx_, s0_, s1_, i64_w, i32_w];rfl
        refine one_ (i := 12) (N := some 40) #[true, true, true, true, true, true, true, true, true, true, true, true, true, false, false] rfl rfl (one_of HT_.out kr_) (by decide) (fun K hK => ?_);have hcv22 := own_string (P := Tryz.prog) Tryz.underlying43 Tryz.underlying5 Tryz.underlying9 (Kd.own_of_R pn.out);refine value_ (w1 := ?_) (v := ?_) (by rfl) rfl ?_ ?_;rotate_left 2
        ·go_simp
         constructor
         ·rfl
         ·rfl
        clear hcv22;refine hK.out _ _ trivial (fun hHeld => ?_);clear hK K;refine norm_ (a' := ?_) ?_ ?_;rotate_left
        ·show Act.put _ (some 40) _ = _
         simp only [Act.put, sx_, s0_, s1_, i64_w, i32_w];rfl
        refine pure_ (i := 13) (N := some 41) (v := ?_) (a' := ?_) #[true, true, true, true, true, true, true, true, true, true, true, true, true, true, false] rfl rfl (any_of HT_.out kr_) (fun _ _ _ h => h) (Or.inl ⟨by rfl, ?_⟩) ?_ ?_;rotate_left
        ·intro w'
         go_simp
         with_reducible rfl
        rotate_left
        ·simp only [Act.put, sx_, s0_, s1_, i64_w, i32_w]
         rfl
        refine pure_ (i := 14) (N := some 3) (v := ?_) (a' := ?_) #[true, true, true, true, true, true, true, true, true, true, true, true, true, true, true] rfl rfl (any_of HT_.out kr_) (fun _ _ _ h => h) (Or.inl ⟨by rfl, ?_⟩) ?_ ?_;rotate_left
        ·intro w'
         go_simp
         with_reducible rfl
        rotate_left
        ·simp only [Act.put, sx_, s0_, s1_, i64_w, i32_w]
         rfl
        refine done_ (done_of HT_.out kr_) ?_;try go_wp2
        go_roundg k1
        case measure => have := HK1.out; omega
        case rel => exact ⟨(x3_1 ++ (strOfNums pc)), (wrap64 (x4_1 + 1)), sd_, sd_, H', ⟨by have := HK1.out; omega⟩, ⟨bel_ HB.out⟩⟩
       ·rw [if_neg c18] at H
        exact absurd H (by simp)
    ·rw [if_neg c3] at H
     exact absurd H (by simp)
   ·rw [if_neg c2] at H
    have c2b0 : decide (x4_1 < (a0.size : Int)) = false := decide_eq_false c2;clear c2;obtain rfl := Option.some.inj H;go_wp2
    go_ret
    exact ⟨fi_, bel_ HB.out⟩

/-! ### tollref04_Text: function 26 -/
def tollref04_Text.l0 : Nat → List (S51) → ByteArray → Int → Option (ByteArray)
 | 0, _, _, _ => none
 | k + 1, x0, x3, x4 => if x4 < (x0.length : Int) then (if x4 > 0 then (if x3.size + 1 ≤ 9223372036854775807 then (if 0 ≤ x4 then ((tollref04_written.f k ((rd_T51 x0 x4).f0)).bind fun pa => (if pa.size + 1 ≤ 9223372036854775807 then ((tollref04_written.f k ((rd_T51 x0 x4).f1)).bind fun pd => (if (pa ++ (⟨#[61]⟩ : ByteArray)).size + pd.size ≤ 9223372036854775807 then (if (x3 ++ (⟨#[38]⟩ : ByteArray)).size + ((pa ++ (⟨#[61]⟩ : ByteArray)) ++ pd).size ≤ 9223372036854775807 then (tollref04_Text.l0 k x0 ((x3 ++ (⟨#[38]⟩ : ByteArray)) ++ ((pa ++ (⟨#[61]⟩ : ByteArray)) ++ pd)) (wrap64 (x4 + 1))) else (none)) else (none))) else (none))) else (none)) else (none)) else (if 0 ≤ x4 then ((tollref04_written.f k ((rd_T51 x0 x4).f0)).bind fun pb => (if pb.size + 1 ≤ 9223372036854775807 then ((tollref04_written.f k ((rd_T51 x0 x4).f1)).bind fun pe => (if (pb ++ (⟨#[61]⟩ : ByteArray)).size + pe.size ≤ 9223372036854775807 then (if x3.size + ((pb ++ (⟨#[61]⟩ : ByteArray)) ++ pe).size ≤ 9223372036854775807 then (tollref04_Text.l0 k x0 (x3 ++ ((pb ++ (⟨#[61]⟩ : ByteArray)) ++ pe)) (wrap64 (x4 + 1))) else (none)) else (none))) else (none))) else (none))) else (some x3)
def tollref04_Text.f (k : Nat) (l0 : List (S51)) : Option (ByteArray) := tollref04_Text.l0 k l0 (⟨#[]⟩ : ByteArray) 0
theorem tollref04_Text.mono_l : ∀ k, (∀ y0 y1 y2, LeO (tollref04_Text.l0 k y0 y1 y2) (tollref04_Text.l0 (k + 1) y0 y1 y2))
 | 0 => fun _ _ _ r h => by simp [tollref04_Text.l0] at h
 | k + 1 => by
  have ih0 := tollref04_Text.mono_l k
  ·intro y0 y1 y2
   unfold tollref04_Text.l0;repeat' first
   | (with_reducible exact ih0 _ _ _)
   | (with_reducible exact tollref04_written.mono _ _)
   | (with_reducible exact LeO.refl _)
   | (with_reducible exact LeO.none _)
   | (with_reducible refine LeO.ite ?_ ?_)
   | (with_reducible refine LeO.bind ?_ (fun _ => ?_))
   | exact ih0 _ _ _
   | exact tollref04_written.mono _ _
   | exact LeO.none _
   | refine LeO.ite ?_ ?_
   | refine LeO.bind ?_ (fun _ => ?_)
theorem tollref04_Text.mono : ∀ a0 k, LeO (tollref04_Text.f k a0) (tollref04_Text.f (k + 1) a0) := by
 intro a0 k;have ih0 := tollref04_Text.mono_l k
 unfold tollref04_Text.f;repeat' first
   | (with_reducible exact ih0 _ _ _)
   | (with_reducible exact tollref04_written.mono _ _)
   | (with_reducible exact LeO.refl _)
   | (with_reducible exact LeO.none _)
   | (with_reducible refine LeO.ite ?_ ?_)
   | (with_reducible refine LeO.bind ?_ (fun _ => ?_))
   | exact ih0 _ _ _
   | exact tollref04_written.mono _ _
   | exact LeO.none _
   | refine LeO.ite ?_ ?_
   | refine LeO.bind ?_ (fun _ => ?_)
def tollref04_Text.T7 : Bool × List (List Nat × List Nat) := (true, [([], []), ([], []), ([], []), ([1, 2], [1, 2]), ([3], [3]), ([4], [4]), ([5], [5]), ([6], [6]), ([], []), ([], []), ([8, 9], [8, 9]), ([10], [10]), ([11], [11]), ([12, 6], [12]), ([7, 13], [7, 13]), ([0, 14], [0, 14]), ([15, 13, 0, 1, 2, 3, 4, 5, 6, 7, 8, 9, 10, 11, 12, 13, 14, 15], [0, 15])])
def tollref04_Text.B7 : List Nat := [0, 0, 0, 6, 14, 30, 62, 126, 0, 0, 768, 1792, 3840, 8062, 16382, 32767, 65535]
theorem tollref04_Text.tab7 : rtab .any (opsOf Tryz.f26 7) = tollref04_Text.T7 := by kernel_rfl
theorem tollref04_Text.bits7 : waitsOk tollref04_Text.T7.2 tollref04_Text.B7 = true := by kernel_rfl
set_option maxHeartbeats 8000000 in
set_option maxRecDepth 100000 in
theorem tollref04_Text.calls (k : Nat) (A0 : Option Addr) (c0 : Nat) (l0 : List (S51)) (r : ByteArray) (w : World) (hr0 : Kd.C k51 w A0 l0.length l0) (hc0 : l0.length ≤ c0) (h : tollref04_Text.f k l0 = some r) :
  Calls Tryz.prog 26 #[.slice A0 l0.length c0] w fun e w' => e = .returned (.string r) ∧ Below w.heap.size w w' := by
 have HR0 := Aside0.mk hr0;have HC0 := Aside0.mk hc0;clear hr0 hc0;have HB := am_ (Below.refl w.heap.size w);have H : (tollref04_Text.l0 k l0 (⟨#[]⟩ : ByteArray) 0) = some r := h;clear h;have H' := Aside0.mk H;clear H;go_enter Tryz.func26, Tryz.ntmps26
 go_wp2
 go_loopg [3, 4] k (fun kq v3 v4 w' => ∃ (x3_1 : ByteArray) (x4_1 : Int), v3 = .string x3_1 ∧ v4 = .int .i64 x4_1 ∧ Aside0 (tollref04_Text.l0 kq l0 x3_1 x4_1 = some r) ∧ Aside0 (kq ≤ k) ∧ Aside0 (Below w.heap.size w w'))
 case atStart => exact ⟨((⟨#[]⟩ : ByteArray)), (0), sd_, sd_, H', ⟨Nat.le_refl _⟩, ⟨bel_ HB.out⟩⟩
 case round =>
  clear H';obtain ⟨x3_1, x4_1, rfl, rfl, HA, HK1, HB⟩ := hrel;cases gk with
  | zero => exact absurd HA.out (by simp [tollref04_Text.l0])
  | succ k1 =>
   have H := HA.out;clear HA;simp only [tollref04_Text.l0] at H;by_cases c2 : x4_1 < (l0.length : Int)
   ·rw [if_pos c2] at H
    have c2b0 : decide (x4_1 < (l0.length : Int)) = true := decide_eq_true c2;clear c2;by_cases c3 : x4_1 > 0
    ·rw [if_pos c3] at H
     have c3b0 : decide (0 < x4_1) = true := decide_eq_true c3;clear c3;by_cases c4 : x3_1.size + 1 ≤ 9223372036854775807
     ·rw [if_pos c4] at H
      have c4b0 := eq_true c4;have c4b1 : decide (x3_1.size + 1 ≤ 9223372036854775807) = true := decide_eq_true c4;try have c4b2 : (9223372036854775807 < x3_1.size + 1) = False := eq_false (Nat.not_lt.2 c4)
      by_cases c5 : 0 ≤ x4_1
      ·rw [if_pos c5] at H
       have c5b0 : decide (0 ≤ x4_1) = true := decide_eq_true c5;clear c5;replace H := Option.bind_eq_some_iff.mp H;obtain ⟨pa, A60, H⟩ := H;replace H : (if pa.size + 1 ≤ 9223372036854775807 then ((tollref04_written.f k1 ((rd_T51 l0 x4_1).f1)).bind fun pd => (if (pa ++ (⟨#[61]⟩ : ByteArray)).size + pd.size ≤ 9223372036854775807 then (if (x3_1 ++ (⟨#[38]⟩ : ByteArray)).size + ((pa ++ (⟨#[61]⟩ : ByteArray)) ++ pd).size ≤ 9223372036854775807 then (tollref04_Text.l0 k1 l0 ((x3_1 ++ (⟨#[38]⟩ : ByteArray)) ++ ((pa ++ (⟨#[61]⟩ : ByteArray)) ++ pd)) (wrap64 (x4_1 + 1))) else (none)) else (none))) else (none)) = some r := H;have A6 := Aside0.mk A60;clear A60;by_cases c7 : pa.size + 1 ≤ 9223372036854775807
       ·rw [if_pos c7] at H
        have c7b0 := eq_true c7;have c7b1 : decide (pa.size + 1 ≤ 9223372036854775807) = true := decide_eq_true c7;try have c7b2 : (9223372036854775807 < pa.size + 1) = False := eq_false (Nat.not_lt.2 c7)
        replace H := Option.bind_eq_some_iff.mp H;obtain ⟨pd, A80, H⟩ := H;replace H : (if (pa ++ (⟨#[61]⟩ : ByteArray)).size + pd.size ≤ 9223372036854775807 then (if (x3_1 ++ (⟨#[38]⟩ : ByteArray)).size + ((pa ++ (⟨#[61]⟩ : ByteArray)) ++ pd).size ≤ 9223372036854775807 then (tollref04_Text.l0 k1 l0 ((x3_1 ++ (⟨#[38]⟩ : ByteArray)) ++ ((pa ++ (⟨#[61]⟩ : ByteArray)) ++ pd)) (wrap64 (x4_1 + 1))) else (none)) else (none)) = some r := H;have A8 := Aside0.mk A80;clear A80;by_cases c9 : (pa ++ (⟨#[61]⟩ : ByteArray)).size + pd.size ≤ 9223372036854775807
        ·rw [if_pos c9] at H
         have c9b0 := eq_true c9;have c9b1 : decide ((pa ++ (⟨#[61]⟩ : ByteArray)).size + pd.size ≤ 9223372036854775807) = true := decide_eq_true c9;try have c9b2 : (9223372036854775807 < (pa ++ (⟨#[61]⟩ : ByteArray)).size + pd.size) = False := eq_false (Nat.not_lt.2 c9)
         (try have c9z : (9223372036854775807 < pa.size + 1 + pd.size) = False := eq_false (Nat.not_lt.2 (by have q_ := c9; simp only [ByteArray.size_append] at q_; exact q_)));by_cases c10 : (x3_1 ++ (⟨#[38]⟩ : ByteArray)).size + ((pa ++ (⟨#[61]⟩ : ByteArray)) ++ pd).size ≤ 9223372036854775807
         ·rw [if_pos c10] at H
          have c10b0 := eq_true c10;have c10b1 : decide ((x3_1 ++ (⟨#[38]⟩ : ByteArray)).size + ((pa ++ (⟨#[61]⟩ : ByteArray)) ++ pd).size ≤ 9223372036854775807) = true := decide_eq_true c10;try have c10b2 : (9223372036854775807 < (x3_1 ++ (⟨#[38]⟩ : ByteArray)).size + ((pa ++ (⟨#[61]⟩ : ByteArray)) ++ pd).size) = False := eq_false (Nat.not_lt.2 c10)
          (try have c10z : (9223372036854775807 < x3_1.size + 1 + (pa.size + 1 + pd.size)) = False := eq_false (Nat.not_lt.2 (by have q_ := c10; simp only [ByteArray.size_append] at q_; exact q_)));have H' := Aside0.mk H;clear H;try go_wp2
          have n0_ := am_ (below_drew1 HB.out);clear HB;have HB := n0_;clear n0_;have p217 : 0 ≤ (x4_1 : Int) := of_decide_eq_true as_;have q217 : x4_1 < (l0.length : Int) := of_decide_eq_true as_;obtain ⟨pi, e217, hx217_0, hx217_1⟩ := at_T51 HR0.out x4_1 p217 q217;have hw217_1 := hx217_1;have hw217_0 := hx217_0;cases e217;replace hx217_0 := (HB.out.cell (World.block_lt_of_cell? w _ hx217_0)).trans hx217_0;replace hx217_1 := (HB.out.cell (World.block_lt_of_cell? w _ hx217_1)).trans hx217_1;replace p217 := eq_true p217;replace q217 := eq_true q217;have p219 : 0 ≤ (x4_1 : Int) := of_decide_eq_true as_;have q219 : x4_1 < (l0.length : Int) := of_decide_eq_true as_;obtain ⟨po, e219, hx219_0, hx219_1⟩ := at_T51 HR0.out x4_1 p219 q219;have hw219_1 := hx219_1;have hw219_0 := hx219_0;obtain rfl : pi = po := (by injection e219);replace hx219_0 := (HB.out.cell (World.block_lt_of_cell? w _ hx219_0)).trans hx219_0;replace hx219_1 := (HB.out.cell (World.block_lt_of_cell? w _ hx219_1)).trans hx219_1;replace p219 := eq_true p219;replace q219 := eq_true q219;refine start_ (n := 17) (S := fun w' => w'.cell? (pi.add ((x4_1).toNat * 2)) = some (.string ((rd_T51 l0 x4_1).f0)) ∧ w'.cell? ⟨(pi.add ((x4_1).toNat * 2)).block, (pi.add ((x4_1).toNat * 2)).off + 1, none⟩ = some (.string ((rd_T51 l0 x4_1).f1)) ∧ w'.cell? (pi.add ((x4_1).toNat * 2)) = some (.string ((rd_T51 l0 x4_1).f0)) ∧ w'.cell? ⟨(pi.add ((x4_1).toNat * 2)).block, (pi.add ((x4_1).toNat * 2)).off + 1, none⟩ = some (.string ((rd_T51 l0 x4_1).f1))) (ds := []) #[false, false, false, false, false, false, false, false, false, false, false, false, false, false, false, false, false] kr_ rfl rfl ⟨((HB.out.cell (World.block_lt_of_cell? w _ hw217_0)).trans hw217_0), ((HB.out.cell (World.block_lt_of_cell? w _ hw217_1)).trans hw217_1), ((HB.out.cell (World.block_lt_of_cell? w _ hw219_0)).trans hw219_0), ((HB.out.cell (World.block_lt_of_cell? w _ hw219_1)).trans hw219_1)⟩ (fun hHeld => ?_); refine with_tabW tollref04_Text.tab7 tollref04_Text.bits7 (fun HT_ HW_ => ?_);generalize wr.drew = w11 at HB hx217_0 hx217_1 hx219_0 hx219_1 hHeld ⊢;refine pure_ (i := 0) (N := some 15) (v := ?_) (a' := ?_) #[true, false, false, false, false, false, false, false, false, false, false, false, false, false, false, false, false] rfl rfl (any_of HT_.out kr_) (fun _ _ _ h => h) (Or.inl ⟨by rfl, ?_⟩) ?_ ?_;rotate_left
          ·intro w'
           go_simp
           with_reducible rfl
          rotate_left
          ·simp only [Act.put, sx_, s0_, s1_, i64_w, i32_w]
           rfl
          refine pure_ (i := 1) (N := some 16) (v := ?_) (a' := ?_) #[true, true, false, false, false, false, false, false, false, false, false, false, false, false, false, false, false] rfl rfl (any_of HT_.out kr_) (fun _ _ _ h => h) (Or.inl ⟨by rfl, ?_⟩) ?_ ?_;rotate_left
          ·intro w'
           go_simp
           with_reducible rfl
          rotate_left
          ·simp only [Act.put, sx_, s0_, s1_, i64_w, i32_w]
           rfl
          refine pure_ (i := 2) (N := some 17) (v := ?_) (a' := ?_) #[true, true, true, false, false, false, false, false, false, false, false, false, false, false, false, false, false] rfl rfl (any_of HT_.out kr_) (fun _ _ _ h => h) (Or.inl ⟨by rfl, ?_⟩) ?_ ?_;rotate_left
          ·intro w'
           go_simp
           with_reducible rfl
          rotate_left
          ·simp only [Act.put, sx_, s0_, s1_, i64_w, i32_w]
           rfl
          refine pure_ (i := 3) (N := some 18) (v := ?_) (a' := ?_) #[true, true, true, true, false, false, false, false, false, false, false, false, false, false, false, false, false] rfl rfl (any_of HT_.out kr_) (fun _ _ _ h => h) (Or.inl ⟨by rfl, ?_⟩) ?_ ?_;rotate_left
          ·intro w'
           go_simp
           with_reducible rfl
          rotate_left
          ·simp only [Act.put, sx_, s0_, s1_, i64_w, i32_w]
           rfl
          refine pure_ (i := 4) (N := some 19) (v := ?_) (a' := ?_) #[true, true, true, true, true, false, false, false, false, false, false, false, false, false, false, false, false] rfl rfl (any_of HT_.out kr_) (fun _ _ _ h => h) (Or.inl ⟨by rfl, ?_⟩) ?_ ?_;rotate_left
          ·intro w'
           go_simp
           with_reducible rfl
          rotate_left
          ·simp only [Act.put, sx_, s0_, s1_, i64_w, i32_w]
           rfl
          refine pure_ (i := 8) (N := some 23) (v := ?_) (a' := ?_) #[true, true, true, true, true, false, false, false, true, false, false, false, false, false, false, false, false] rfl rfl (any_of HT_.out kr_) (fun _ _ _ h => h) (Or.inl ⟨by rfl, ?_⟩) ?_ ?_;rotate_left
          ·intro w'
           go_simp
           with_reducible rfl
          rotate_left
          ·simp only [Act.put, sx_, s0_, s1_, i64_w, i32_w]
           rfl
          refine pure_ (i := 9) (N := some 24) (v := ?_) (a' := ?_) #[true, true, true, true, true, false, false, false, true, true, false, false, false, false, false, false, false] rfl rfl (any_of HT_.out kr_) (fun _ _ _ h => h) (Or.inl ⟨by rfl, ?_⟩) ?_ ?_;rotate_left
          ·intro w'
           go_simp
           with_reducible rfl
          rotate_left
          ·simp only [Act.put, sx_, s0_, s1_, i64_w, i32_w]
           rfl
          refine pure_ (i := 10) (N := some 25) (v := ?_) (a' := ?_) #[true, true, true, true, true, false, false, false, true, true, true, false, false, false, false, false, false] rfl rfl (any_of HT_.out kr_) (fun _ _ _ h => h) (Or.inl ⟨by rfl, ?_⟩) ?_ ?_;rotate_left
          ·intro w'
           go_simp
           with_reducible rfl
          rotate_left
          ·simp only [Act.put, sx_, s0_, s1_, i64_w, i32_w]
           rfl
          refine pure_ (i := 11) (N := some 26) (v := ?_) (a' := ?_) #[true, true, true, true, true, false, false, false, true, true, true, true, false, false, false, false, false] rfl rfl (any_of HT_.out kr_) (fun _ _ _ h => h) (Or.inl ⟨by rfl, ?_⟩) ?_ ?_;rotate_left
          ·intro w'
           go_simp
           with_reducible rfl
          rotate_left
          ·simp only [Act.put, sx_, s0_, s1_, i64_w, i32_w]
           rfl
          refine take_ (i := 5) (N := some 20) (v := ?_) (a' := ?_) #[true, true, true, true, true, true, false, false, true, true, true, true, false, false, false, false, false] rfl rfl (take_ofW HT_.out HW_.out kr_) (fun _ _ _ h => h) (Or.inl ⟨by rfl, ?_⟩) hHeld ?_ ?_;rotate_left
          ·rintro w' ⟨s0, s1, s2, s3⟩
           go_simp
           with_reducible rfl
          rotate_left
          ·simp only [Act.put, sx_, s0_, s1_, i64_w, i32_w]
           rfl
          refine take_ (i := 12) (N := some 27) (v := ?_) (a' := ?_) #[true, true, true, true, true, true, false, false, true, true, true, true, true, false, false, false, false] rfl rfl (take_ofW HT_.out HW_.out kr_) (fun _ _ _ h => h) (Or.inl ⟨by rfl, ?_⟩) hHeld ?_ ?_;rotate_left
          ·rintro w' ⟨s0, s1, s2, s3⟩
           go_simp
           with_reducible rfl
          rotate_left
          ·simp only [Act.put, sx_, s0_, s1_, i64_w, i32_w]
           rfl
          refine one_ (i := 6) (N := some 21) #[true, true, true, true, true, true, true, false, true, true, true, true, true, false, false, false, false] rfl rfl (one_of HT_.out kr_) (by decide) (fun K hK => ?_);refine goes_ Tryz.func44 kr_ rfl #[.string ((rd_T51 l0 x4_1).f0)] (by rfl) rfl rfl rl_ ?_;with_reducible refine (tollref04_written.calls k1 ((rd_T51 l0 x4_1).f0) pa _ A6.out).mono ?_;rintro e w12 ⟨rfl, hb⟩;refine ⟨_, rfl, ?_⟩;have n0_ := am_ (below_step (bel_ HB.out) hb);clear HB;have HB := n0_;clear n0_;(try clear hb);(try clear hb2);(try clear hk);(try clear hi);refine hK.out _ _ ⟨((HB.out.cell (World.block_lt_of_cell? w _ hw217_0)).trans hw217_0), ((HB.out.cell (World.block_lt_of_cell? w _ hw217_1)).trans hw217_1), ((HB.out.cell (World.block_lt_of_cell? w _ hw219_0)).trans hw219_0), ((HB.out.cell (World.block_lt_of_cell? w _ hw219_1)).trans hw219_1)⟩ (fun hHeld => ?_);clear hK K;refine norm_ (a' := ?_) ?_ ?_;rotate_left
          ·show Act.put _ (some 21) _ = _
           simp only [Act.put, sx_, s0_, s1_, i64_w, i32_w];rfl
          refine pure_ (i := 7) (N := some 22) (v := ?_) (a' := ?_) #[true, true, true, true, true, true, true, true, true, true, true, true, true, false, false, false, false] rfl rfl (any_of HT_.out kr_) (fun _ _ _ h => h) (Or.inl ⟨by rfl, ?_⟩) ?_ ?_;rotate_left
          ·intro w'
           go_simp
           with_reducible rfl
          rotate_left
          ·simp only [Act.put, sx_, s0_, s1_, i64_w, i32_w]
           rfl
          refine one_ (i := 13) (N := some 28) #[true, true, true, true, true, true, true, true, true, true, true, true, true, true, false, false, false] rfl rfl (one_of HT_.out kr_) (by decide) (fun K hK => ?_);refine goes_ Tryz.func44 kr_ rfl #[.string ((rd_T51 l0 x4_1).f1)] (by rfl) rfl rfl rl_ ?_;with_reducible refine (tollref04_written.calls k1 ((rd_T51 l0 x4_1).f1) pd _ A8.out).mono ?_;rintro e w13 ⟨rfl, hb⟩;refine ⟨_, rfl, ?_⟩;have n0_ := am_ (below_step (bel_ HB.out) hb);clear HB;have HB := n0_;clear n0_;(try clear hb);(try clear hb2);(try clear hk);(try clear hi);refine hK.out _ _ ⟨((HB.out.cell (World.block_lt_of_cell? w _ hw217_0)).trans hw217_0), ((HB.out.cell (World.block_lt_of_cell? w _ hw217_1)).trans hw217_1), ((HB.out.cell (World.block_lt_of_cell? w _ hw219_0)).trans hw219_0), ((HB.out.cell (World.block_lt_of_cell? w _ hw219_1)).trans hw219_1)⟩ (fun hHeld => ?_);clear hK K;refine norm_ (a' := ?_) ?_ ?_;rotate_left
          ·show Act.put _ (some 28) _ = _
           simp only [Act.put, sx_, s0_, s1_, i64_w, i32_w];rfl
          refine pure_ (i := 14) (N := some 29) (v := ?_) (a' := ?_) #[true, true, true, true, true, true, true, true, true, true, true, true, true, true, true, false, false] rfl rfl (any_of HT_.out kr_) (fun _ _ _ h => h) (Or.inl ⟨by rfl, ?_⟩) ?_ ?_;rotate_left
          ·intro w'
           go_simp
           with_reducible rfl
          rotate_left
          ·simp only [Act.put, sx_, s0_, s1_, i64_w, i32_w]
           rfl
          refine pure_ (i := 15) (N := some 30) (v := ?_) (a' := ?_) #[true, true, true, true, true, true, true, true, true, true, true, true, true, true, true, true, false] rfl rfl (any_of HT_.out kr_) (fun _ _ _ h => h) (Or.inl ⟨by rfl, ?_⟩) ?_ ?_;rotate_left
          ·intro w'
           go_simp
           with_reducible rfl
          rotate_left
          ·simp only [Act.put, sx_, s0_, s1_, i64_w, i32_w]
           rfl
          refine pure_ (i := 16) (N := some 3) (v := ?_) (a' := ?_) #[true, true, true, true, true, true, true, true, true, true, true, true, true, true, true, true, true] rfl rfl (any_of HT_.out kr_) (fun _ _ _ h => h) (Or.inl ⟨by rfl, ?_⟩) ?_ ?_;rotate_left
          ·intro w'
           go_simp
           with_reducible rfl
          rotate_left
          ·simp only [Act.put, sx_, s0_, s1_, i64_w, i32_w]
           rfl
          refine done_ (done_of HT_.out kr_) ?_;try go_wp2
          go_roundg k1
          case measure => have := HK1.out; omega
          case rel => exact ⟨((x3_1 ++ (⟨#[38]⟩ : ByteArray)) ++ ((pa ++ (⟨#[61]⟩ : ByteArray)) ++ pd)), (wrap64 (x4_1 + 1)), sd_, sd_, H', ⟨by have := HK1.out; omega⟩, ⟨bel_ HB.out⟩⟩
         ·rw [if_neg c10] at H
          exact absurd H (by simp)
        ·rw [if_neg c9] at H
         exact absurd H (by simp)
       ·rw [if_neg c7] at H
        exact absurd H (by simp)
      ·rw [if_neg c5] at H
       exact absurd H (by simp)
     ·rw [if_neg c4] at H
      exact absurd H (by simp)
    ·rw [if_neg c3] at H
     have c3b0 : decide (0 < x4_1) = false := decide_eq_false c3;clear c3;by_cases c14 : 0 ≤ x4_1
     ·rw [if_pos c14] at H
      have c14b0 : decide (0 ≤ x4_1) = true := decide_eq_true c14;clear c14;replace H := Option.bind_eq_some_iff.mp H;obtain ⟨pb, A150, H⟩ := H;replace H : (if pb.size + 1 ≤ 9223372036854775807 then ((tollref04_written.f k1 ((rd_T51 l0 x4_1).f1)).bind fun pe => (if (pb ++ (⟨#[61]⟩ : ByteArray)).size + pe.size ≤ 9223372036854775807 then (if x3_1.size + ((pb ++ (⟨#[61]⟩ : ByteArray)) ++ pe).size ≤ 9223372036854775807 then (tollref04_Text.l0 k1 l0 (x3_1 ++ ((pb ++ (⟨#[61]⟩ : ByteArray)) ++ pe)) (wrap64 (x4_1 + 1))) else (none)) else (none))) else (none)) = some r := H;have A15 := Aside0.mk A150;clear A150;by_cases c16 : pb.size + 1 ≤ 9223372036854775807
      ·rw [if_pos c16] at H
       have c16b0 := eq_true c16;have c16b1 : decide (pb.size + 1 ≤ 9223372036854775807) = true := decide_eq_true c16;try have c16b2 : (9223372036854775807 < pb.size + 1) = False := eq_false (Nat.not_lt.2 c16)
       replace H := Option.bind_eq_some_iff.mp H;obtain ⟨pe, A170, H⟩ := H;replace H : (if (pb ++ (⟨#[61]⟩ : ByteArray)).size + pe.size ≤ 9223372036854775807 then (if x3_1.size + ((pb ++ (⟨#[61]⟩ : ByteArray)) ++ pe).size ≤ 9223372036854775807 then (tollref04_Text.l0 k1 l0 (x3_1 ++ ((pb ++ (⟨#[61]⟩ : ByteArray)) ++ pe)) (wrap64 (x4_1 + 1))) else (none)) else (none)) = some r := H;have A17 := Aside0.mk A170;clear A170;by_cases c18 : (pb ++ (⟨#[61]⟩ : ByteArray)).size + pe.size ≤ 9223372036854775807
       ·rw [if_pos c18] at H
        have c18b0 := eq_true c18;have c18b1 : decide ((pb ++ (⟨#[61]⟩ : ByteArray)).size + pe.size ≤ 9223372036854775807) = true := decide_eq_true c18;try have c18b2 : (9223372036854775807 < (pb ++ (⟨#[61]⟩ : ByteArray)).size + pe.size) = False := eq_false (Nat.not_lt.2 c18)
        (try have c18z : (9223372036854775807 < pb.size + 1 + pe.size) = False := eq_false (Nat.not_lt.2 (by have q_ := c18; simp only [ByteArray.size_append] at q_; exact q_)));by_cases c19 : x3_1.size + ((pb ++ (⟨#[61]⟩ : ByteArray)) ++ pe).size ≤ 9223372036854775807
        ·rw [if_pos c19] at H
         have c19b0 := eq_true c19;have c19b1 : decide (x3_1.size + ((pb ++ (⟨#[61]⟩ : ByteArray)) ++ pe).size ≤ 9223372036854775807) = true := decide_eq_true c19;try have c19b2 : (9223372036854775807 < x3_1.size + ((pb ++ (⟨#[61]⟩ : ByteArray)) ++ pe).size) = False := eq_false (Nat.not_lt.2 c19)
         (try have c19z : (9223372036854775807 < x3_1.size + (pb.size + 1 + pe.size)) = False := eq_false (Nat.not_lt.2 (by have q_ := c19; simp only [ByteArray.size_append] at q_; exact q_)));have H' := Aside0.mk H;clear H;try go_wp2
         have n0_ := am_ (below_drew1 HB.out);clear HB;have HB := n0_;clear n0_;have p221 : 0 ≤ (x4_1 : Int) := of_decide_eq_true as_;have q221 : x4_1 < (l0.length : Int) := of_decide_eq_true as_;obtain ⟨pj, e221, hx221_0, hx221_1⟩ := at_T51 HR0.out x4_1 p221 q221;have hw221_1 := hx221_1;have hw221_0 := hx221_0;cases e221;replace hx221_0 := (HB.out.cell (World.block_lt_of_cell? w _ hx221_0)).trans hx221_0;replace hx221_1 := (HB.out.cell (World.block_lt_of_cell? w _ hx221_1)).trans hx221_1;replace p221 := eq_true p221;replace q221 := eq_true q221;have p223 : 0 ≤ (x4_1 : Int) := of_decide_eq_true as_;have q223 : x4_1 < (l0.length : Int) := of_decide_eq_true as_;obtain ⟨pp, e223, hx223_0, hx223_1⟩ := at_T51 HR0.out x4_1 p223 q223;have hw223_1 := hx223_1;have hw223_0 := hx223_0;obtain rfl : pj = pp := (by injection e223);replace hx223_0 := (HB.out.cell (World.block_lt_of_cell? w _ hx223_0)).trans hx223_0;replace hx223_1 := (HB.out.cell (World.block_lt_of_cell? w _ hx223_1)).trans hx223_1;replace p223 := eq_true p223;replace q223 := eq_true q223;refine start_ (n := 17) (S := fun w' => w'.cell? (pj.add ((x4_1).toNat * 2)) = some (.string ((rd_T51 l0 x4_1).f0)) ∧ w'.cell? ⟨(pj.add ((x4_1).toNat * 2)).block, (pj.add ((x4_1).toNat * 2)).off + 1, none⟩ = some (.string ((rd_T51 l0 x4_1).f1)) ∧ w'.cell? (pj.add ((x4_1).toNat * 2)) = some (.string ((rd_T51 l0 x4_1).f0)) ∧ w'.cell? ⟨(pj.add ((x4_1).toNat * 2)).block, (pj.add ((x4_1).toNat * 2)).off + 1, none⟩ = some (.string ((rd_T51 l0 x4_1).f1))) (ds := []) #[false, false, false, false, false, false, false, false, false, false, false, false, false, false, false, false, false] kr_ rfl rfl ⟨((HB.out.cell (World.block_lt_of_cell? w _ hw221_0)).trans hw221_0), ((HB.out.cell (World.block_lt_of_cell? w _ hw221_1)).trans hw221_1), ((HB.out.cell (World.block_lt_of_cell? w _ hw223_0)).trans hw223_0), ((HB.out.cell (World.block_lt_of_cell? w _ hw223_1)).trans hw223_1)⟩ (fun hHeld => ?_); refine with_tabW tollref04_Text.tab7 tollref04_Text.bits7 (fun HT_ HW_ => ?_);generalize wr.drew = w20 at HB hx221_0 hx221_1 hx223_0 hx223_1 hHeld ⊢;refine pure_ (i := 0) (N := some 15) (v := ?_) (a' := ?_) #[true, false, false, false, false, false, false, false, false, false, false, false, false, false, false, false, false] rfl rfl (any_of HT_.out kr_) (fun _ _ _ h => h) (Or.inl ⟨by rfl, ?_⟩) ?_ ?_;rotate_left
         ·intro w'
          go_simp
          with_reducible rfl
         rotate_left
         ·simp only [Act.put, sx_, s0_, s1_, i64_w, i32_w]
          rfl
         refine pure_ (i := 1) (N := some 16) (v := ?_) (a' := ?_) #[true, true, false, false, false, false, false, false, false, false, false, false, false, false, false, false, false] rfl rfl (any_of HT_.out kr_) (fun _ _ _ h => h) (Or.inl ⟨by rfl, ?_⟩) ?_ ?_;rotate_left
         ·intro w'
          go_simp
          with_reducible rfl
         rotate_left
         ·simp only [Act.put, sx_, s0_, s1_, i64_w, i32_w]
          rfl
         refine pure_ (i := 2) (N := some 17) (v := ?_) (a' := ?_) #[true, true, true, false, false, false, false, false, false, false, false, false, false, false, false, false, false] rfl rfl (any_of HT_.out kr_) (fun _ _ _ h => h) (Or.inl ⟨by rfl, ?_⟩) ?_ ?_;rotate_left
         ·intro w'
          go_simp
          with_reducible rfl
         rotate_left
         ·simp only [Act.put, sx_, s0_, s1_, i64_w, i32_w]
          rfl
         refine pure_ (i := 3) (N := some 18) (v := ?_) (a' := ?_) #[true, true, true, true, false, false, false, false, false, false, false, false, false, false, false, false, false] rfl rfl (any_of HT_.out kr_) (fun _ _ _ h => h) (Or.inl ⟨by rfl, ?_⟩) ?_ ?_;rotate_left
         ·intro w'
          go_simp
          with_reducible rfl
         rotate_left
         ·simp only [Act.put, sx_, s0_, s1_, i64_w, i32_w]
          rfl
         refine pure_ (i := 4) (N := some 19) (v := ?_) (a' := ?_) #[true, true, true, true, true, false, false, false, false, false, false, false, false, false, false, false, false] rfl rfl (any_of HT_.out kr_) (fun _ _ _ h => h) (Or.inl ⟨by rfl, ?_⟩) ?_ ?_;rotate_left
         ·intro w'
          go_simp
          with_reducible rfl
         rotate_left
         ·simp only [Act.put, sx_, s0_, s1_, i64_w, i32_w]
          rfl
         refine pure_ (i := 8) (N := some 23) (v := ?_) (a' := ?_) #[true, true, true, true, true, false, false, false, true, false, false, false, false, false, false, false, false] rfl rfl (any_of HT_.out kr_) (fun _ _ _ h => h) (Or.inl ⟨by rfl, ?_⟩) ?_ ?_;rotate_left
         ·intro w'
          go_simp
          with_reducible rfl
         rotate_left
         ·simp only [Act.put, sx_, s0_, s1_, i64_w, i32_w]
          rfl
         refine pure_ (i := 9) (N := some 24) (v := ?_) (a' := ?_) #[true, true, true, true, true, false, false, false, true, true, false, false, false, false, false, false, false] rfl rfl (any_of HT_.out kr_) (fun _ _ _ h => h) (Or.inl ⟨by rfl, ?_⟩) ?_ ?_;rotate_left
         ·intro w'
          go_simp
          with_reducible rfl
         rotate_left
         ·simp only [Act.put, sx_, s0_, s1_, i64_w, i32_w]
          rfl
         refine pure_ (i := 10) (N := some 25) (v := ?_) (a' := ?_) #[true, true, true, true, true, false, false, false, true, true, true, false, false, false, false, false, false] rfl rfl (any_of HT_.out kr_) (fun _ _ _ h => h) (Or.inl ⟨by rfl, ?_⟩) ?_ ?_;rotate_left
         ·intro w'
          go_simp
          with_reducible rfl
         rotate_left
         ·simp only [Act.put, sx_, s0_, s1_, i64_w, i32_w]
          rfl
         refine pure_ (i := 11) (N := some 26) (v := ?_) (a' := ?_) #[true, true, true, true, true, false, false, false, true, true, true, true, false, false, false, false, false] rfl rfl (any_of HT_.out kr_) (fun _ _ _ h => h) (Or.inl ⟨by rfl, ?_⟩) ?_ ?_;rotate_left
         ·intro w'
          go_simp
          with_reducible rfl
         rotate_left
         ·simp only [Act.put, sx_, s0_, s1_, i64_w, i32_w]
          rfl
         refine take_ (i := 5) (N := some 20) (v := ?_) (a' := ?_) #[true, true, true, true, true, true, false, false, true, true, true, true, false, false, false, false, false] rfl rfl (take_ofW HT_.out HW_.out kr_) (fun _ _ _ h => h) (Or.inl ⟨by rfl, ?_⟩) hHeld ?_ ?_;rotate_left
         ·rintro w' ⟨s0, s1, s2, s3⟩
          go_simp
          with_reducible rfl
         rotate_left
         ·simp only [Act.put, sx_, s0_, s1_, i64_w, i32_w]
          rfl
         refine take_ (i := 12) (N := some 27) (v := ?_) (a' := ?_) #[true, true, true, true, true, true, false, false, true, true, true, true, true, false, false, false, false] rfl rfl (take_ofW HT_.out HW_.out kr_) (fun _ _ _ h => h) (Or.inl ⟨by rfl, ?_⟩) hHeld ?_ ?_;rotate_left
         ·rintro w' ⟨s0, s1, s2, s3⟩
          go_simp
          with_reducible rfl
         rotate_left
         ·simp only [Act.put, sx_, s0_, s1_, i64_w, i32_w]
          rfl
         refine one_ (i := 6) (N := some 21) #[true, true, true, true, true, true, true, false, true, true, true, true, true, false, false, false, false] rfl rfl (one_of HT_.out kr_) (by decide) (fun K hK => ?_);refine goes_ Tryz.func44 kr_ rfl #[.string ((rd_T51 l0 x4_1).f0)] (by rfl) rfl rfl rl_ ?_;with_reducible refine (tollref04_written.calls k1 ((rd_T51 l0 x4_1).f0) pb _ A15.out).mono ?_;rintro e w21 ⟨rfl, hb⟩;refine ⟨_, rfl, ?_⟩;have n0_ := am_ (below_step (bel_ HB.out) hb);clear HB;have HB := n0_;clear n0_;(try clear hb);(try clear hb2);(try clear hk);(try clear hi);refine hK.out _ _ ⟨((HB.out.cell (World.block_lt_of_cell? w _ hw221_0)).trans hw221_0), ((HB.out.cell (World.block_lt_of_cell? w _ hw221_1)).trans hw221_1), ((HB.out.cell (World.block_lt_of_cell? w _ hw223_0)).trans hw223_0), ((HB.out.cell (World.block_lt_of_cell? w _ hw223_1)).trans hw223_1)⟩ (fun hHeld => ?_);clear hK K;refine norm_ (a' := ?_) ?_ ?_;rotate_left
         ·show Act.put _ (some 21) _ = _
          simp only [Act.put, sx_, s0_, s1_, i64_w, i32_w];rfl
         refine pure_ (i := 7) (N := some 22) (v := ?_) (a' := ?_) #[true, true, true, true, true, true, true, true, true, true, true, true, true, false, false, false, false] rfl rfl (any_of HT_.out kr_) (fun _ _ _ h => h) (Or.inl ⟨by rfl, ?_⟩) ?_ ?_;rotate_left
         ·intro w'
          go_simp
          with_reducible rfl
         rotate_left
         ·simp only [Act.put, sx_, s0_, s1_, i64_w, i32_w]
          rfl
         refine one_ (i := 13) (N := some 28) #[true, true, true, true, true, true, true, true, true, true, true, true, true, true, false, false, false] rfl rfl (one_of HT_.out kr_) (by decide) (fun K hK => ?_);refine goes_ Tryz.func44 kr_ rfl #[.string ((rd_T51 l0 x4_1).f1)] (by rfl) rfl rfl rl_ ?_;with_reducible refine (tollref04_written.calls k1 ((rd_T51 l0 x4_1).f1) pe _ A17.out).mono ?_;rintro e w22 ⟨rfl, hb⟩;refine ⟨_, rfl, ?_⟩;have n0_ := am_ (below_step (bel_ HB.out) hb);clear HB;have HB := n0_;clear n0_;(try clear hb);(try clear hb2);(try clear hk);(try clear hi);refine hK.out _ _ ⟨((HB.out.cell (World.block_lt_of_cell? w _ hw221_0)).trans hw221_0), ((HB.out.cell (World.block_lt_of_cell? w _ hw221_1)).trans hw221_1), ((HB.out.cell (World.block_lt_of_cell? w _ hw223_0)).trans hw223_0), ((HB.out.cell (World.block_lt_of_cell? w _ hw223_1)).trans hw223_1)⟩ (fun hHeld => ?_);clear hK K;refine norm_ (a' := ?_) ?_ ?_;rotate_left
         ·show Act.put _ (some 28) _ = _
          simp only [Act.put, sx_, s0_, s1_, i64_w, i32_w];rfl
         refine pure_ (i := 14) (N := some 29) (v := ?_) (a' := ?_) #[true, true, true, true, true, true, true, true, true, true, true, true, true, true, true, false, false] rfl rfl (any_of HT_.out kr_) (fun _ _ _ h => h) (Or.inl ⟨by rfl, ?_⟩) ?_ ?_;rotate_left
         ·intro w'
          go_simp
          with_reducible rfl
         rotate_left
         ·simp only [Act.put, sx_, s0_, s1_, i64_w, i32_w]
          rfl
         refine pure_ (i := 15) (N := some 30) (v := ?_) (a' := ?_) #[true, true, true, true, true, true, true, true, true, true, true, true, true, true, true, true, false] rfl rfl (any_of HT_.out kr_) (fun _ _ _ h => h) (Or.inl ⟨by rfl, ?_⟩) ?_ ?_;rotate_left
         ·intro w'
          go_simp
          with_reducible rfl
         rotate_left
         ·simp only [Act.put, sx_, s0_, s1_, i64_w, i32_w]
          rfl
         refine pure_ (i := 16) (N := some 3) (v := ?_) (a' := ?_) #[true, true, true, true, true, true, true, true, true, true, true, true, true, true, true, true, true] rfl rfl (any_of HT_.out kr_) (fun _ _ _ h => h) (Or.inl ⟨by rfl, ?_⟩) ?_ ?_;rotate_left
         ·intro w'
          go_simp
          with_reducible rfl
         rotate_left
         ·simp only [Act.put, sx_, s0_, s1_, i64_w, i32_w]
          rfl
         refine done_ (done_of HT_.out kr_) ?_;try go_wp2
         go_roundg k1
         case measure => have := HK1.out; omega
         case rel => exact ⟨(x3_1 ++ ((pb ++ (⟨#[61]⟩ : ByteArray)) ++ pe)), (wrap64 (x4_1 + 1)), sd_, sd_, H', ⟨by have := HK1.out; omega⟩, ⟨bel_ HB.out⟩⟩
        ·rw [if_neg c19] at H
         exact absurd H (by simp)
       ·rw [if_neg c18] at H
        exact absurd H (by simp)
      ·rw [if_neg c16] at H
       exact absurd H (by simp)
     ·rw [if_neg c14] at H
      exact absurd H (by simp)
   ·rw [if_neg c2] at H
    have c2b0 : decide (x4_1 < (l0.length : Int)) = false := decide_eq_false c2;clear c2;obtain rfl := Option.some.inj H;go_wp2
    go_ret
    exact ⟨fi_, bel_ HB.out⟩

end Go.Proofs.YtpmllmfamjpinaaGreatDoor.P
