-- written by wip/tool/hprint.py of this repo: the kit's print, with contracts by hand joined; Lean checks it.
import Derived.Test.YtompldnifiieaaaDoorPx0
import Derived.Test.YtompldnifiieaaaDoorPx1
namespace Go.Proofs.YtompldnifiieaaaDoor.P
open Go.RowKit Go.Proofs.YtompldnifiieaaaDoorW.PrintWords Go.Proofs.YtompldnifiieaaaDoorW.PrintLast Go.Proofs.YtompldnifiieaaaDoorW.PrintMore
attribute [local go_sem] max2_int min2_int max_two min_two max_three min_three max_four min_four   -- for this text's walks alone
set_option linter.unusedVariables false
set_option linter.unusedSimpArgs false

/-! ### pairs_Token: function 25 -/
noncomputable def pairs_Token.l0 : Nat → ByteArray → Int → Int → Option (Bool)
 | 0, _, _, _ => none
 | k + 1, x0, x6, x7 => if x7 < x6 then (if 0 ≤ x7 then (if x7 < (x0.size : Int) then (if (Go.bits .or .u8 (bt x0 x7) 32) ≥ 97 then (if (Go.bits .or .u8 (bt x0 x7) 32) ≤ 122 then (pairs_Token.l0 k x0 x6 (wrap64 (x7 + 1))) else (if (bt x0 x7) ≥ 48 then (if (bt x0 x7) ≤ 57 then (pairs_Token.l0 k x0 x6 (wrap64 (x7 + 1))) else ((strings_IndexByte.f (⟨#[33, 35, 36, 37, 38, 39, 42, 43, 45, 46, 94, 95, 96, 124, 126]⟩ : ByteArray) (bt x0 x7)).bind fun t135 => (if t135 ≥ 0 then (pairs_Token.l0 k x0 x6 (wrap64 (x7 + 1))) else (some false)))) else ((strings_IndexByte.f (⟨#[33, 35, 36, 37, 38, 39, 42, 43, 45, 46, 94, 95, 96, 124, 126]⟩ : ByteArray) (bt x0 x7)).bind fun t136 => (if t136 ≥ 0 then (pairs_Token.l0 k x0 x6 (wrap64 (x7 + 1))) else (some false))))) else (if (bt x0 x7) ≥ 48 then (if (bt x0 x7) ≤ 57 then (pairs_Token.l0 k x0 x6 (wrap64 (x7 + 1))) else ((strings_IndexByte.f (⟨#[33, 35, 36, 37, 38, 39, 42, 43, 45, 46, 94, 95, 96, 124, 126]⟩ : ByteArray) (bt x0 x7)).bind fun t137 => (if t137 ≥ 0 then (pairs_Token.l0 k x0 x6 (wrap64 (x7 + 1))) else (some false)))) else ((strings_IndexByte.f (⟨#[33, 35, 36, 37, 38, 39, 42, 43, 45, 46, 94, 95, 96, 124, 126]⟩ : ByteArray) (bt x0 x7)).bind fun t138 => (if t138 ≥ 0 then (pairs_Token.l0 k x0 x6 (wrap64 (x7 + 1))) else (some false))))) else (none)) else (none)) else (if x0.toList = ([] : List UInt8) then (some false) else (some (decide ((x0.size : Int) ≤ 40))))
noncomputable def pairs_Token.f (k : Nat) (a0 : ByteArray) : Option (Bool) := pairs_Token.l0 k a0 (a0.size : Int) 0
theorem pairs_Token.mono_l : ∀ k, (∀ y0 y1 y2, LeO (pairs_Token.l0 k y0 y1 y2) (pairs_Token.l0 (k + 1) y0 y1 y2))
 | 0 => fun _ _ _ r h => by simp [pairs_Token.l0] at h
 | k + 1 => by
  have ih0 := pairs_Token.mono_l k
  ·intro y0 y1 y2
   unfold pairs_Token.l0
   repeat' first
   | (with_reducible exact ih0 _ _ _)
   | (with_reducible exact LeO.refl _)
   | (with_reducible exact LeO.none _)
   | (with_reducible refine LeO.ite ?_ ?_)
   | (with_reducible refine LeO.bind ?_ (fun _ => ?_))
   | exact ih0 _ _ _
   | exact LeO.none _
   | refine LeO.ite ?_ ?_
   | refine LeO.bind ?_ (fun _ => ?_)
theorem pairs_Token.mono : ∀ a0 k, LeO (pairs_Token.f k a0) (pairs_Token.f (k + 1) a0) := by
 intro a0 k
 have ih0 := pairs_Token.mono_l k
 unfold pairs_Token.f
 repeat' first
   | (with_reducible exact ih0 _ _ _)
   | (with_reducible exact LeO.refl _)
   | (with_reducible exact LeO.none _)
   | (with_reducible refine LeO.ite ?_ ?_)
   | (with_reducible refine LeO.bind ?_ (fun _ => ?_))
   | exact ih0 _ _ _
   | exact LeO.none _
   | refine LeO.ite ?_ ?_
   | refine LeO.bind ?_ (fun _ => ?_)
set_option maxHeartbeats 8000000 in
set_option maxRecDepth 100000 in
theorem pairs_Token.calls (k : Nat) (a0 : ByteArray) (r : Bool) (w : World) (h : pairs_Token.f k a0 = some r) :
  Calls Tryd.prog 25 #[.string a0] w fun e w' => e = .returned (.bool r) ∧ Drawn0 w w' := by
 have H : (pairs_Token.l0 k a0 (a0.size : Int) 0) = some r := h
 clear h
 have H' := Aside0.mk H
 clear H
 go_enter Tryd.func25, Tryd.ntmps25
 go_wp2
 go_loopg [7] k (fun kq v7 w' => ∃ (x7_1 : Int), v7 = .int .i64 x7_1 ∧ Aside0 (pairs_Token.l0 kq a0 (a0.size : Int) x7_1 = some r) ∧ Aside0 (kq ≤ k) ∧ Drawn0 w w')
 case atStart => exact ⟨(0), sd_, H', ⟨Nat.le_refl _⟩, by repeat (first | exact Drawn0.refl _ | apply Drawn0.step)⟩
 case round =>
  clear H'
  obtain ⟨x7_1, rfl, HA, HK1, ⟨m1, rfl⟩⟩ := hrel
  cases gk with
  | zero => exact absurd HA.out (by simp [pairs_Token.l0])
  | succ k1 =>
   have H := HA.out
   clear HA
   simp only [pairs_Token.l0] at H
   by_cases c2 : x7_1 < (a0.size : Int)
   ·rw [if_pos c2] at H
    have c2b0 : decide (x7_1 < (a0.size : Int)) = true := decide_eq_true c2
    clear c2
    by_cases c3 : 0 ≤ x7_1
    ·rw [if_pos c3] at H
     have c3b0 : decide (0 ≤ x7_1) = true := decide_eq_true c3
     clear c3
     by_cases c4 : x7_1 < (a0.size : Int)
     ·rw [if_pos c4] at H
      have c4b0 : decide (x7_1 < (a0.size : Int)) = true := decide_eq_true c4
      clear c4
      by_cases c6 : (Go.bits .or .u8 (bt a0 x7_1) 32) ≥ 97
      ·rw [if_pos c6] at H
       have c6b0 : decide (97 ≤ (Go.bits .or .u8 (bt a0 x7_1) 32)) = true := decide_eq_true c6
       clear c6
       by_cases c7 : (Go.bits .or .u8 (bt a0 x7_1) 32) ≤ 122
       ·rw [if_pos c7] at H
        have c7b0 : decide ((Go.bits .or .u8 (bt a0 x7_1) 32) ≤ 122) = true := decide_eq_true c7
        clear c7
        have H' := Aside0.mk H
        clear H
        have p5 : 0 ≤ (x7_1 : Int) := of_decide_eq_true as_
        have q5 : x7_1 < (a0.size : Int) := of_decide_eq_true as_
        have hx5 := bt_at a0 x7_1
        replace p5 := eq_true p5
        replace q5 := eq_true q5
        go_wp2
        go_roundg k1
        case measure => have := HK1.out; omega
        case rel => exact ⟨(wrap64 (x7_1 + 1)), sd_, H', ⟨by have := HK1.out; omega⟩, by repeat (first | exact Drawn0.refl _ | apply Drawn0.step)⟩
       ·rw [if_neg c7] at H
        have c7b0 : decide ((Go.bits .or .u8 (bt a0 x7_1) 32) ≤ 122) = false := decide_eq_false c7
        clear c7
        by_cases c9 : (bt a0 x7_1) ≥ 48
        ·rw [if_pos c9] at H
         have c9b0 : decide (48 ≤ (bt a0 x7_1)) = true := decide_eq_true c9
         clear c9
         by_cases c11 : (bt a0 x7_1) ≤ 57
         ·rw [if_pos c11] at H
          have c11b0 : decide ((bt a0 x7_1) ≤ 57) = true := decide_eq_true c11
          clear c11
          have H' := Aside0.mk H
          clear H
          have p5 : 0 ≤ (x7_1 : Int) := of_decide_eq_true as_
          have q5 : x7_1 < (a0.size : Int) := of_decide_eq_true as_
          have hx5 := bt_at a0 x7_1
          replace p5 := eq_true p5
          replace q5 := eq_true q5
          have p8 : 0 ≤ (x7_1 : Int) := of_decide_eq_true as_
          have q8 : x7_1 < (a0.size : Int) := of_decide_eq_true as_
          have hx8 := bt_at a0 x7_1
          replace p8 := eq_true p8
          replace q8 := eq_true q8
          have p10 : 0 ≤ (x7_1 : Int) := of_decide_eq_true as_
          have q10 : x7_1 < (a0.size : Int) := of_decide_eq_true as_
          have hx10 := bt_at a0 x7_1
          replace p10 := eq_true p10
          replace q10 := eq_true q10
          go_wp2
          go_roundg k1
          case measure => have := HK1.out; omega
          case rel => exact ⟨(wrap64 (x7_1 + 1)), sd_, H', ⟨by have := HK1.out; omega⟩, by repeat (first | exact Drawn0.refl _ | apply Drawn0.step)⟩
         ·rw [if_neg c11] at H
          have c11b0 : decide ((bt a0 x7_1) ≤ 57) = false := decide_eq_false c11
          clear c11
          replace H := Option.bind_eq_some_iff.mp H
          obtain ⟨t135, A130, H⟩ := H
          replace H : (if t135 ≥ 0 then (pairs_Token.l0 k1 a0 (a0.size : Int) (wrap64 (x7_1 + 1))) else (some false)) = some r := H
          have A13 := Aside0.mk A130
          clear A130
          by_cases c14 : t135 ≥ 0
          ·rw [if_pos c14] at H
           have c14b0 : decide (0 ≤ t135) = true := decide_eq_true c14
           clear c14
           have H' := Aside0.mk H
           clear H
           have p5 : 0 ≤ (x7_1 : Int) := of_decide_eq_true as_
           have q5 : x7_1 < (a0.size : Int) := of_decide_eq_true as_
           have hx5 := bt_at a0 x7_1
           replace p5 := eq_true p5
           replace q5 := eq_true q5
           have p8 : 0 ≤ (x7_1 : Int) := of_decide_eq_true as_
           have q8 : x7_1 < (a0.size : Int) := of_decide_eq_true as_
           have hx8 := bt_at a0 x7_1
           replace p8 := eq_true p8
           replace q8 := eq_true q8
           have p10 : 0 ≤ (x7_1 : Int) := of_decide_eq_true as_
           have q10 : x7_1 < (a0.size : Int) := of_decide_eq_true as_
           have hx10 := bt_at a0 x7_1
           replace p10 := eq_true p10
           replace q10 := eq_true q10
           have p12 : 0 ≤ (x7_1 : Int) := of_decide_eq_true as_
           have q12 : x7_1 < (a0.size : Int) := of_decide_eq_true as_
           have hx12 := bt_at a0 x7_1
           replace p12 := eq_true p12
           replace q12 := eq_true q12
           go_wp2_with (first | (go_at_call 47; (with_reducible refine (strings_IndexByte.calls (⟨#[33, 35, 36, 37, 38, 39, 42, 43, 45, 46, 94, 95, 96, 124, 126]⟩ : ByteArray) (bt a0 x7_1) t135 _ A13.out).mono ?_); rintro e w' ⟨rfl, ⟨nd, rfl⟩⟩))
           go_roundg k1
           case measure => have := HK1.out; omega
           case rel => exact ⟨(wrap64 (x7_1 + 1)), sd_, H', ⟨by have := HK1.out; omega⟩, by repeat (first | exact Drawn0.refl _ | apply Drawn0.step)⟩
          ·rw [if_neg c14] at H
           have c14b0 : decide (0 ≤ t135) = false := decide_eq_false c14
           clear c14
           obtain rfl := Option.some.inj H
           have p5 : 0 ≤ (x7_1 : Int) := of_decide_eq_true as_
           have q5 : x7_1 < (a0.size : Int) := of_decide_eq_true as_
           have hx5 := bt_at a0 x7_1
           replace p5 := eq_true p5
           replace q5 := eq_true q5
           have p8 : 0 ≤ (x7_1 : Int) := of_decide_eq_true as_
           have q8 : x7_1 < (a0.size : Int) := of_decide_eq_true as_
           have hx8 := bt_at a0 x7_1
           replace p8 := eq_true p8
           replace q8 := eq_true q8
           have p10 : 0 ≤ (x7_1 : Int) := of_decide_eq_true as_
           have q10 : x7_1 < (a0.size : Int) := of_decide_eq_true as_
           have hx10 := bt_at a0 x7_1
           replace p10 := eq_true p10
           replace q10 := eq_true q10
           have p12 : 0 ≤ (x7_1 : Int) := of_decide_eq_true as_
           have q12 : x7_1 < (a0.size : Int) := of_decide_eq_true as_
           have hx12 := bt_at a0 x7_1
           replace p12 := eq_true p12
           replace q12 := eq_true q12
           go_wp2_with (first | (go_at_call 47; (with_reducible refine (strings_IndexByte.calls (⟨#[33, 35, 36, 37, 38, 39, 42, 43, 45, 46, 94, 95, 96, 124, 126]⟩ : ByteArray) (bt a0 x7_1) t135 _ A13.out).mono ?_); rintro e w' ⟨rfl, ⟨nd, rfl⟩⟩))
           go_ret
           exact ⟨by first | rfl | (simp; done) | (simp [*]; done) | (simp [bne_nil_isEmpty, beq_nil_isEmpty]; done) | (simp [*, bne_nil_isEmpty, beq_nil_isEmpty]; done), by repeat (first | exact Drawn0.refl _ | apply Drawn0.step)⟩
        ·rw [if_neg c9] at H
         have c9b0 : decide (48 ≤ (bt a0 x7_1)) = false := decide_eq_false c9
         clear c9
         replace H := Option.bind_eq_some_iff.mp H
         obtain ⟨t136, A160, H⟩ := H
         replace H : (if t136 ≥ 0 then (pairs_Token.l0 k1 a0 (a0.size : Int) (wrap64 (x7_1 + 1))) else (some false)) = some r := H
         have A16 := Aside0.mk A160
         clear A160
         by_cases c17 : t136 ≥ 0
         ·rw [if_pos c17] at H
          have c17b0 : decide (0 ≤ t136) = true := decide_eq_true c17
          clear c17
          have H' := Aside0.mk H
          clear H
          have p5 : 0 ≤ (x7_1 : Int) := of_decide_eq_true as_
          have q5 : x7_1 < (a0.size : Int) := of_decide_eq_true as_
          have hx5 := bt_at a0 x7_1
          replace p5 := eq_true p5
          replace q5 := eq_true q5
          have p8 : 0 ≤ (x7_1 : Int) := of_decide_eq_true as_
          have q8 : x7_1 < (a0.size : Int) := of_decide_eq_true as_
          have hx8 := bt_at a0 x7_1
          replace p8 := eq_true p8
          replace q8 := eq_true q8
          have p15 : 0 ≤ (x7_1 : Int) := of_decide_eq_true as_
          have q15 : x7_1 < (a0.size : Int) := of_decide_eq_true as_
          have hx15 := bt_at a0 x7_1
          replace p15 := eq_true p15
          replace q15 := eq_true q15
          go_wp2_with (first | (go_at_call 47; (with_reducible refine (strings_IndexByte.calls (⟨#[33, 35, 36, 37, 38, 39, 42, 43, 45, 46, 94, 95, 96, 124, 126]⟩ : ByteArray) (bt a0 x7_1) t136 _ A16.out).mono ?_); rintro e w' ⟨rfl, ⟨nd, rfl⟩⟩))
          go_roundg k1
          case measure => have := HK1.out; omega
          case rel => exact ⟨(wrap64 (x7_1 + 1)), sd_, H', ⟨by have := HK1.out; omega⟩, by repeat (first | exact Drawn0.refl _ | apply Drawn0.step)⟩
         ·rw [if_neg c17] at H
          have c17b0 : decide (0 ≤ t136) = false := decide_eq_false c17
          clear c17
          obtain rfl := Option.some.inj H
          have p5 : 0 ≤ (x7_1 : Int) := of_decide_eq_true as_
          have q5 : x7_1 < (a0.size : Int) := of_decide_eq_true as_
          have hx5 := bt_at a0 x7_1
          replace p5 := eq_true p5
          replace q5 := eq_true q5
          have p8 : 0 ≤ (x7_1 : Int) := of_decide_eq_true as_
          have q8 : x7_1 < (a0.size : Int) := of_decide_eq_true as_
          have hx8 := bt_at a0 x7_1
          replace p8 := eq_true p8
          replace q8 := eq_true q8
          have p15 : 0 ≤ (x7_1 : Int) := of_decide_eq_true as_
          have q15 : x7_1 < (a0.size : Int) := of_decide_eq_true as_
          have hx15 := bt_at a0 x7_1
          replace p15 := eq_true p15
          replace q15 := eq_true q15
          go_wp2_with (first | (go_at_call 47; (with_reducible refine (strings_IndexByte.calls (⟨#[33, 35, 36, 37, 38, 39, 42, 43, 45, 46, 94, 95, 96, 124, 126]⟩ : ByteArray) (bt a0 x7_1) t136 _ A16.out).mono ?_); rintro e w' ⟨rfl, ⟨nd, rfl⟩⟩))
          go_ret
          exact ⟨by first | rfl | (simp; done) | (simp [*]; done) | (simp [bne_nil_isEmpty, beq_nil_isEmpty]; done) | (simp [*, bne_nil_isEmpty, beq_nil_isEmpty]; done), by repeat (first | exact Drawn0.refl _ | apply Drawn0.step)⟩
      ·rw [if_neg c6] at H
       have c6b0 : decide (97 ≤ (Go.bits .or .u8 (bt a0 x7_1) 32)) = false := decide_eq_false c6
       clear c6
       by_cases c19 : (bt a0 x7_1) ≥ 48
       ·rw [if_pos c19] at H
        have c19b0 : decide (48 ≤ (bt a0 x7_1)) = true := decide_eq_true c19
        clear c19
        by_cases c21 : (bt a0 x7_1) ≤ 57
        ·rw [if_pos c21] at H
         have c21b0 : decide ((bt a0 x7_1) ≤ 57) = true := decide_eq_true c21
         clear c21
         have H' := Aside0.mk H
         clear H
         have p5 : 0 ≤ (x7_1 : Int) := of_decide_eq_true as_
         have q5 : x7_1 < (a0.size : Int) := of_decide_eq_true as_
         have hx5 := bt_at a0 x7_1
         replace p5 := eq_true p5
         replace q5 := eq_true q5
         have p18 : 0 ≤ (x7_1 : Int) := of_decide_eq_true as_
         have q18 : x7_1 < (a0.size : Int) := of_decide_eq_true as_
         have hx18 := bt_at a0 x7_1
         replace p18 := eq_true p18
         replace q18 := eq_true q18
         have p20 : 0 ≤ (x7_1 : Int) := of_decide_eq_true as_
         have q20 : x7_1 < (a0.size : Int) := of_decide_eq_true as_
         have hx20 := bt_at a0 x7_1
         replace p20 := eq_true p20
         replace q20 := eq_true q20
         go_wp2
         go_roundg k1
         case measure => have := HK1.out; omega
         case rel => exact ⟨(wrap64 (x7_1 + 1)), sd_, H', ⟨by have := HK1.out; omega⟩, by repeat (first | exact Drawn0.refl _ | apply Drawn0.step)⟩
        ·rw [if_neg c21] at H
         have c21b0 : decide ((bt a0 x7_1) ≤ 57) = false := decide_eq_false c21
         clear c21
         replace H := Option.bind_eq_some_iff.mp H
         obtain ⟨t137, A230, H⟩ := H
         replace H : (if t137 ≥ 0 then (pairs_Token.l0 k1 a0 (a0.size : Int) (wrap64 (x7_1 + 1))) else (some false)) = some r := H
         have A23 := Aside0.mk A230
         clear A230
         by_cases c24 : t137 ≥ 0
         ·rw [if_pos c24] at H
          have c24b0 : decide (0 ≤ t137) = true := decide_eq_true c24
          clear c24
          have H' := Aside0.mk H
          clear H
          have p5 : 0 ≤ (x7_1 : Int) := of_decide_eq_true as_
          have q5 : x7_1 < (a0.size : Int) := of_decide_eq_true as_
          have hx5 := bt_at a0 x7_1
          replace p5 := eq_true p5
          replace q5 := eq_true q5
          have p18 : 0 ≤ (x7_1 : Int) := of_decide_eq_true as_
          have q18 : x7_1 < (a0.size : Int) := of_decide_eq_true as_
          have hx18 := bt_at a0 x7_1
          replace p18 := eq_true p18
          replace q18 := eq_true q18
          have p20 : 0 ≤ (x7_1 : Int) := of_decide_eq_true as_
          have q20 : x7_1 < (a0.size : Int) := of_decide_eq_true as_
          have hx20 := bt_at a0 x7_1
          replace p20 := eq_true p20
          replace q20 := eq_true q20
          have p22 : 0 ≤ (x7_1 : Int) := of_decide_eq_true as_
          have q22 : x7_1 < (a0.size : Int) := of_decide_eq_true as_
          have hx22 := bt_at a0 x7_1
          replace p22 := eq_true p22
          replace q22 := eq_true q22
          go_wp2_with (first | (go_at_call 47; (with_reducible refine (strings_IndexByte.calls (⟨#[33, 35, 36, 37, 38, 39, 42, 43, 45, 46, 94, 95, 96, 124, 126]⟩ : ByteArray) (bt a0 x7_1) t137 _ A23.out).mono ?_); rintro e w' ⟨rfl, ⟨nd, rfl⟩⟩))
          go_roundg k1
          case measure => have := HK1.out; omega
          case rel => exact ⟨(wrap64 (x7_1 + 1)), sd_, H', ⟨by have := HK1.out; omega⟩, by repeat (first | exact Drawn0.refl _ | apply Drawn0.step)⟩
         ·rw [if_neg c24] at H
          have c24b0 : decide (0 ≤ t137) = false := decide_eq_false c24
          clear c24
          obtain rfl := Option.some.inj H
          have p5 : 0 ≤ (x7_1 : Int) := of_decide_eq_true as_
          have q5 : x7_1 < (a0.size : Int) := of_decide_eq_true as_
          have hx5 := bt_at a0 x7_1
          replace p5 := eq_true p5
          replace q5 := eq_true q5
          have p18 : 0 ≤ (x7_1 : Int) := of_decide_eq_true as_
          have q18 : x7_1 < (a0.size : Int) := of_decide_eq_true as_
          have hx18 := bt_at a0 x7_1
          replace p18 := eq_true p18
          replace q18 := eq_true q18
          have p20 : 0 ≤ (x7_1 : Int) := of_decide_eq_true as_
          have q20 : x7_1 < (a0.size : Int) := of_decide_eq_true as_
          have hx20 := bt_at a0 x7_1
          replace p20 := eq_true p20
          replace q20 := eq_true q20
          have p22 : 0 ≤ (x7_1 : Int) := of_decide_eq_true as_
          have q22 : x7_1 < (a0.size : Int) := of_decide_eq_true as_
          have hx22 := bt_at a0 x7_1
          replace p22 := eq_true p22
          replace q22 := eq_true q22
          go_wp2_with (first | (go_at_call 47; (with_reducible refine (strings_IndexByte.calls (⟨#[33, 35, 36, 37, 38, 39, 42, 43, 45, 46, 94, 95, 96, 124, 126]⟩ : ByteArray) (bt a0 x7_1) t137 _ A23.out).mono ?_); rintro e w' ⟨rfl, ⟨nd, rfl⟩⟩))
          go_ret
          exact ⟨by first | rfl | (simp; done) | (simp [*]; done) | (simp [bne_nil_isEmpty, beq_nil_isEmpty]; done) | (simp [*, bne_nil_isEmpty, beq_nil_isEmpty]; done), by repeat (first | exact Drawn0.refl _ | apply Drawn0.step)⟩
       ·rw [if_neg c19] at H
        have c19b0 : decide (48 ≤ (bt a0 x7_1)) = false := decide_eq_false c19
        clear c19
        replace H := Option.bind_eq_some_iff.mp H
        obtain ⟨t138, A260, H⟩ := H
        replace H : (if t138 ≥ 0 then (pairs_Token.l0 k1 a0 (a0.size : Int) (wrap64 (x7_1 + 1))) else (some false)) = some r := H
        have A26 := Aside0.mk A260
        clear A260
        by_cases c27 : t138 ≥ 0
        ·rw [if_pos c27] at H
         have c27b0 : decide (0 ≤ t138) = true := decide_eq_true c27
         clear c27
         have H' := Aside0.mk H
         clear H
         have p5 : 0 ≤ (x7_1 : Int) := of_decide_eq_true as_
         have q5 : x7_1 < (a0.size : Int) := of_decide_eq_true as_
         have hx5 := bt_at a0 x7_1
         replace p5 := eq_true p5
         replace q5 := eq_true q5
         have p18 : 0 ≤ (x7_1 : Int) := of_decide_eq_true as_
         have q18 : x7_1 < (a0.size : Int) := of_decide_eq_true as_
         have hx18 := bt_at a0 x7_1
         replace p18 := eq_true p18
         replace q18 := eq_true q18
         have p25 : 0 ≤ (x7_1 : Int) := of_decide_eq_true as_
         have q25 : x7_1 < (a0.size : Int) := of_decide_eq_true as_
         have hx25 := bt_at a0 x7_1
         replace p25 := eq_true p25
         replace q25 := eq_true q25
         go_wp2_with (first | (go_at_call 47; (with_reducible refine (strings_IndexByte.calls (⟨#[33, 35, 36, 37, 38, 39, 42, 43, 45, 46, 94, 95, 96, 124, 126]⟩ : ByteArray) (bt a0 x7_1) t138 _ A26.out).mono ?_); rintro e w' ⟨rfl, ⟨nd, rfl⟩⟩))
         go_roundg k1
         case measure => have := HK1.out; omega
         case rel => exact ⟨(wrap64 (x7_1 + 1)), sd_, H', ⟨by have := HK1.out; omega⟩, by repeat (first | exact Drawn0.refl _ | apply Drawn0.step)⟩
        ·rw [if_neg c27] at H
         have c27b0 : decide (0 ≤ t138) = false := decide_eq_false c27
         clear c27
         obtain rfl := Option.some.inj H
         have p5 : 0 ≤ (x7_1 : Int) := of_decide_eq_true as_
         have q5 : x7_1 < (a0.size : Int) := of_decide_eq_true as_
         have hx5 := bt_at a0 x7_1
         replace p5 := eq_true p5
         replace q5 := eq_true q5
         have p18 : 0 ≤ (x7_1 : Int) := of_decide_eq_true as_
         have q18 : x7_1 < (a0.size : Int) := of_decide_eq_true as_
         have hx18 := bt_at a0 x7_1
         replace p18 := eq_true p18
         replace q18 := eq_true q18
         have p25 : 0 ≤ (x7_1 : Int) := of_decide_eq_true as_
         have q25 : x7_1 < (a0.size : Int) := of_decide_eq_true as_
         have hx25 := bt_at a0 x7_1
         replace p25 := eq_true p25
         replace q25 := eq_true q25
         go_wp2_with (first | (go_at_call 47; (with_reducible refine (strings_IndexByte.calls (⟨#[33, 35, 36, 37, 38, 39, 42, 43, 45, 46, 94, 95, 96, 124, 126]⟩ : ByteArray) (bt a0 x7_1) t138 _ A26.out).mono ?_); rintro e w' ⟨rfl, ⟨nd, rfl⟩⟩))
         go_ret
         exact ⟨by first | rfl | (simp; done) | (simp [*]; done) | (simp [bne_nil_isEmpty, beq_nil_isEmpty]; done) | (simp [*, bne_nil_isEmpty, beq_nil_isEmpty]; done), by repeat (first | exact Drawn0.refl _ | apply Drawn0.step)⟩
     ·rw [if_neg c4] at H
      exact absurd H (by simp)
    ·rw [if_neg c3] at H
     exact absurd H (by simp)
   ·rw [if_neg c2] at H
    have c2b0 : decide (x7_1 < (a0.size : Int)) = false := decide_eq_false c2
    clear c2
    by_cases c28 : a0.toList = ([] : List UInt8)
    ·rw [if_pos c28] at H
     have c28b0 : (a0.toList == ([] : List UInt8)) = true := beq_iff_eq.mpr c28
     have c28b1 : (a0.toList != ([] : List UInt8)) = false := bne_eq_false_iff_eq.mpr c28
     clear c28
     obtain rfl := Option.some.inj H
     go_wp2
     go_ret
     exact ⟨by first | rfl | (simp; done) | (simp [*]; done) | (simp [bne_nil_isEmpty, beq_nil_isEmpty]; done) | (simp [*, bne_nil_isEmpty, beq_nil_isEmpty]; done), by repeat (first | exact Drawn0.refl _ | apply Drawn0.step)⟩
    ·rw [if_neg c28] at H
     have c28b0 : (a0.toList == ([] : List UInt8)) = false := beq_eq_false_iff_ne.mpr c28
     have c28b1 : (a0.toList != ([] : List UInt8)) = true := bne_iff_ne.mpr c28
     obtain rfl := Option.some.inj H
     go_wp2
     go_ret
     exact ⟨by first | rfl | (simp; done) | (simp [*]; done) | (simp [bne_nil_isEmpty, beq_nil_isEmpty]; done) | (simp [*, bne_nil_isEmpty, beq_nil_isEmpty]; done), by repeat (first | exact Drawn0.refl _ | apply Drawn0.step)⟩

/-! ### strings_trimLeftByte: function 63 -/
noncomputable def strings_trimLeftByte.l0 : Nat → ByteArray → Int → Option (ByteArray)
 | 0, _, _ => none
 | k + 1, x0, x1 => if (x0.size : Int) > 0 then (if 0 < (x0.size : Int) then (if (bt x0 0) = x1 then (if 1 ≤ (x0.size : Int) then (strings_trimLeftByte.l0 k (x0.extract 1 x0.size) x1) else (none)) else (some x0)) else (none)) else (some x0)
noncomputable def strings_trimLeftByte.f (k : Nat) (a0 : ByteArray) (a1 : Int) : Option (ByteArray) := strings_trimLeftByte.l0 k a0 a1
theorem strings_trimLeftByte.mono_l : ∀ k, (∀ y0 y1, LeO (strings_trimLeftByte.l0 k y0 y1) (strings_trimLeftByte.l0 (k + 1) y0 y1))
 | 0 => fun _ _ r h => by simp [strings_trimLeftByte.l0] at h
 | k + 1 => by
  have ih0 := strings_trimLeftByte.mono_l k
  ·intro y0 y1
   unfold strings_trimLeftByte.l0
   repeat' first
   | (with_reducible exact ih0 _ _)
   | (with_reducible exact LeO.refl _)
   | (with_reducible exact LeO.none _)
   | (with_reducible refine LeO.ite ?_ ?_)
   | (with_reducible refine LeO.bind ?_ (fun _ => ?_))
   | exact ih0 _ _
   | exact LeO.none _
   | refine LeO.ite ?_ ?_
   | refine LeO.bind ?_ (fun _ => ?_)
theorem strings_trimLeftByte.mono : ∀ a0 a1 k, LeO (strings_trimLeftByte.f k a0 a1) (strings_trimLeftByte.f (k + 1) a0 a1) := by
 intro a0 a1 k
 have ih0 := strings_trimLeftByte.mono_l k
 unfold strings_trimLeftByte.f
 repeat' first
   | (with_reducible exact ih0 _ _)
   | (with_reducible exact LeO.refl _)
   | (with_reducible exact LeO.none _)
   | (with_reducible refine LeO.ite ?_ ?_)
   | (with_reducible refine LeO.bind ?_ (fun _ => ?_))
   | exact ih0 _ _
   | exact LeO.none _
   | refine LeO.ite ?_ ?_
   | refine LeO.bind ?_ (fun _ => ?_)
set_option maxHeartbeats 8000000 in
set_option maxRecDepth 100000 in
theorem strings_trimLeftByte.calls (k : Nat) (a0 : ByteArray) (a1 : Int) (r : ByteArray) (w : World) (h : strings_trimLeftByte.f k a0 a1 = some r) :
  Calls Tryd.prog 63 #[.string a0, .int .u8 a1] w fun e w' => e = .returned (.string r) ∧ Drawn0 w w' := by
 have H : (strings_trimLeftByte.l0 k a0 a1) = some r := h
 clear h
 have H' := Aside0.mk H
 clear H
 go_enter Tryd.func63, Tryd.ntmps63
 go_wp2
 go_loopg [0] k (fun kq v0 w' => ∃ (x0_1 : ByteArray), v0 = .string x0_1 ∧ Aside0 (strings_trimLeftByte.l0 kq x0_1 a1 = some r) ∧ Aside0 (kq ≤ k) ∧ Drawn0 w w')
 case atStart => exact ⟨(a0), sd_, H', ⟨Nat.le_refl _⟩, by repeat (first | exact Drawn0.refl _ | apply Drawn0.step)⟩
 case round =>
  clear H'
  try clear p2
  obtain ⟨x0_1, rfl, HA, HK1, ⟨m1, rfl⟩⟩ := hrel
  cases gk with
  | zero => exact absurd HA.out (by simp [strings_trimLeftByte.l0])
  | succ k1 =>
   have H := HA.out
   clear HA
   simp only [strings_trimLeftByte.l0] at H
   by_cases c3 : (x0_1.size : Int) > 0
   ·rw [if_pos c3] at H
    have c3b0 : decide (0 < (x0_1.size : Int)) = true := decide_eq_true c3
    have c3b1 : decide (0 < x0_1.size) = true := decide_eq_true (by omega)
    clear c3
    by_cases c4 : 0 < (x0_1.size : Int)
    ·rw [if_pos c4] at H
     have c4b0 : decide (0 < (x0_1.size : Int)) = true := decide_eq_true c4
     have c4b1 : decide (0 < x0_1.size) = true := decide_eq_true (by omega)
     clear c4
     by_cases c6 : (bt x0_1 0) = a1
     ·rw [if_pos c6] at H
      have c6b0 : ((bt x0_1 0) == a1) = true := beq_iff_eq.mpr c6
      have c6b1 : ((bt x0_1 0) != a1) = false := bne_eq_false_iff_eq.mpr c6
      clear c6
      by_cases c7 : 1 ≤ (x0_1.size : Int)
      ·rw [if_pos c7] at H
       have c7b0 := eq_true c7
       have c7b1 : decide (1 ≤ (x0_1.size : Int)) = true := decide_eq_true c7
       clear c7
       have H' := Aside0.mk H
       clear H
       have p5 : 0 ≤ (0 : Int) := (by omega)
       have q5 : 0 < x0_1.size := (by have : (0 : Int) < (x0_1.size : Int) := of_decide_eq_true as_; omega)
       have hx5 : ∀ h : 0 < x0_1.size, ((x0_1[0]'h).toNat : Int) = bt x0_1 0 := bt_at x0_1 0
       clear p5
       have qi5 : (0 < (x0_1.size : Int)) = True := eq_true (of_decide_eq_true as_)
       replace q5 := eq_true q5
       go_wp2
       go_roundg k1
       case measure => have := HK1.out; omega
       case rel => exact ⟨(x0_1.extract 1 x0_1.size), sd_, H', ⟨by have := HK1.out; omega⟩, by repeat (first | exact Drawn0.refl _ | apply Drawn0.step)⟩
      ·rw [if_neg c7] at H
       exact absurd H (by simp)
     ·rw [if_neg c6] at H
      have c6b0 : ((bt x0_1 0) == a1) = false := beq_eq_false_iff_ne.mpr c6
      have c6b1 : ((bt x0_1 0) != a1) = true := bne_iff_ne.mpr c6
      obtain rfl := Option.some.inj H
      have p5 : 0 ≤ (0 : Int) := (by omega)
      have q5 : 0 < x0_1.size := (by have : (0 : Int) < (x0_1.size : Int) := of_decide_eq_true as_; omega)
      have hx5 : ∀ h : 0 < x0_1.size, ((x0_1[0]'h).toNat : Int) = bt x0_1 0 := bt_at x0_1 0
      clear p5
      have qi5 : (0 < (x0_1.size : Int)) = True := eq_true (of_decide_eq_true as_)
      replace q5 := eq_true q5
      go_wp2
      go_ret
      exact ⟨by first | rfl | (simp; done) | (simp [*]; done) | (simp [bne_nil_isEmpty, beq_nil_isEmpty]; done) | (simp [*, bne_nil_isEmpty, beq_nil_isEmpty]; done), by repeat (first | exact Drawn0.refl _ | apply Drawn0.step)⟩
    ·rw [if_neg c4] at H
     exact absurd H (by simp)
   ·rw [if_neg c3] at H
    have c3b0 : decide (0 < (x0_1.size : Int)) = false := decide_eq_false c3
    have c3b1 : decide (0 < x0_1.size) = false := decide_eq_false (by omega)
    clear c3
    obtain rfl := Option.some.inj H
    go_wp2
    go_ret
    exact ⟨by first | rfl | (simp; done) | (simp [*]; done) | (simp [bne_nil_isEmpty, beq_nil_isEmpty]; done) | (simp [*, bne_nil_isEmpty, beq_nil_isEmpty]; done), by repeat (first | exact Drawn0.refl _ | apply Drawn0.step)⟩

/-! ### strings_trimRightByte: function 64 -/
noncomputable def strings_trimRightByte.l0 : Nat → ByteArray → Int → Option (ByteArray)
 | 0, _, _ => none
 | k + 1, x0, x1 => if (x0.size : Int) > 0 then (if 0 ≤ (wrap64 ((x0.size : Int) - 1)) then (if (wrap64 ((x0.size : Int) - 1)) < (x0.size : Int) then (if (bt x0 (wrap64 ((x0.size : Int) - 1))) = x1 then (if (wrap64 ((x0.size : Int) - 1)) ≤ (x0.size : Int) then (strings_trimRightByte.l0 k (x0.extract 0 ((wrap64 ((x0.size : Int) - 1)) : Int).toNat) x1) else (none)) else (some x0)) else (none)) else (none)) else (some x0)
noncomputable def strings_trimRightByte.f (k : Nat) (a0 : ByteArray) (a1 : Int) : Option (ByteArray) := strings_trimRightByte.l0 k a0 a1
theorem strings_trimRightByte.mono_l : ∀ k, (∀ y0 y1, LeO (strings_trimRightByte.l0 k y0 y1) (strings_trimRightByte.l0 (k + 1) y0 y1))
 | 0 => fun _ _ r h => by simp [strings_trimRightByte.l0] at h
 | k + 1 => by
  have ih0 := strings_trimRightByte.mono_l k
  ·intro y0 y1
   unfold strings_trimRightByte.l0
   repeat' first
   | (with_reducible exact ih0 _ _)
   | (with_reducible exact LeO.refl _)
   | (with_reducible exact LeO.none _)
   | (with_reducible refine LeO.ite ?_ ?_)
   | (with_reducible refine LeO.bind ?_ (fun _ => ?_))
   | exact ih0 _ _
   | exact LeO.none _
   | refine LeO.ite ?_ ?_
   | refine LeO.bind ?_ (fun _ => ?_)
theorem strings_trimRightByte.mono : ∀ a0 a1 k, LeO (strings_trimRightByte.f k a0 a1) (strings_trimRightByte.f (k + 1) a0 a1) := by
 intro a0 a1 k
 have ih0 := strings_trimRightByte.mono_l k
 unfold strings_trimRightByte.f
 repeat' first
   | (with_reducible exact ih0 _ _)
   | (with_reducible exact LeO.refl _)
   | (with_reducible exact LeO.none _)
   | (with_reducible refine LeO.ite ?_ ?_)
   | (with_reducible refine LeO.bind ?_ (fun _ => ?_))
   | exact ih0 _ _
   | exact LeO.none _
   | refine LeO.ite ?_ ?_
   | refine LeO.bind ?_ (fun _ => ?_)
set_option maxHeartbeats 8000000 in
set_option maxRecDepth 100000 in
theorem strings_trimRightByte.calls (k : Nat) (a0 : ByteArray) (a1 : Int) (r : ByteArray) (w : World) (h : strings_trimRightByte.f k a0 a1 = some r) :
  Calls Tryd.prog 64 #[.string a0, .int .u8 a1] w fun e w' => e = .returned (.string r) ∧ Drawn0 w w' := by
 have H : (strings_trimRightByte.l0 k a0 a1) = some r := h
 clear h
 have H' := Aside0.mk H
 clear H
 go_enter Tryd.func64, Tryd.ntmps64
 go_wp2
 go_loopg [0] k (fun kq v0 w' => ∃ (x0_1 : ByteArray), v0 = .string x0_1 ∧ Aside0 (strings_trimRightByte.l0 kq x0_1 a1 = some r) ∧ Aside0 (kq ≤ k) ∧ Drawn0 w w')
 case atStart => exact ⟨(a0), sd_, H', ⟨Nat.le_refl _⟩, by repeat (first | exact Drawn0.refl _ | apply Drawn0.step)⟩
 case round =>
  clear H'
  try clear p2
  obtain ⟨x0_1, rfl, HA, HK1, ⟨m1, rfl⟩⟩ := hrel
  cases gk with
  | zero => exact absurd HA.out (by simp [strings_trimRightByte.l0])
  | succ k1 =>
   have H := HA.out
   clear HA
   simp only [strings_trimRightByte.l0] at H
   by_cases c3 : (x0_1.size : Int) > 0
   ·rw [if_pos c3] at H
    have c3b0 : decide (0 < (x0_1.size : Int)) = true := decide_eq_true c3
    have c3b1 : decide (0 < x0_1.size) = true := decide_eq_true (by omega)
    clear c3
    obtain ⟨ji4, hji4⟩ : ∃ j_ : Int, (wrap64 ((x0_1.size : Int) - 1)) = j_ := ⟨_, rfl⟩
    replace H : (if 0 ≤ (ji4) then (if (ji4) < (x0_1.size : Int) then (if (bt x0_1 (ji4)) = a1 then (if (ji4) ≤ (x0_1.size : Int) then (strings_trimRightByte.l0 k1 (x0_1.extract 0 ((ji4) : Int).toNat) a1) else (none)) else (some x0_1)) else (none)) else (none)) = some r := by first | (rw [hji4] at H; exact H) | (simp only [hji4] at H ⊢; exact H)
    have hji4w : (IntKind.i64.wrap ((x0_1.size : Int) - 1)) = ji4 := (i64_w _).trans hji4
    by_cases c5 : 0 ≤ (ji4)
    ·rw [if_pos c5] at H
     have c5b0 : decide (0 ≤ (ji4)) = true := decide_eq_true c5
     clear c5
     by_cases c6 : (ji4) < (x0_1.size : Int)
     ·rw [if_pos c6] at H
      have c6b0 : decide ((ji4) < (x0_1.size : Int)) = true := decide_eq_true c6
      clear c6
      by_cases c8 : (bt x0_1 (ji4)) = a1
      ·rw [if_pos c8] at H
       have c8b0 : ((bt x0_1 (ji4)) == a1) = true := beq_iff_eq.mpr c8
       have c8b1 : ((bt x0_1 (ji4)) != a1) = false := bne_eq_false_iff_eq.mpr c8
       clear c8
       have c9b0 := eq_true (of_decide_eq_true as_ : 0 ≤ (ji4))
       by_cases c10 : (ji4) ≤ (x0_1.size : Int)
       ·rw [if_pos c10] at H
        have c10b0 := eq_true c10
        have c10b1 : decide ((ji4) ≤ (x0_1.size : Int)) = true := decide_eq_true c10
        clear c10
        have H' := Aside0.mk H
        clear H
        have p7 : 0 ≤ ((ji4) : Int) := of_decide_eq_true as_
        have q7 : (ji4) < (x0_1.size : Int) := of_decide_eq_true as_
        have hx7 := bt_at x0_1 (ji4)
        replace p7 := eq_true p7
        replace q7 := eq_true q7
        go_wp2
        go_roundg k1
        case measure => have := HK1.out; omega
        case rel => exact ⟨(x0_1.extract 0 ((ji4) : Int).toNat), (by first | rfl | (simp; done) | (simp only [← hji4] <;> (first | rfl | simp)) | (simp [*]; done)), (by first | exact H' | (simp only [hji4]; exact H')), ⟨by have := HK1.out; omega⟩, by repeat (first | exact Drawn0.refl _ | apply Drawn0.step)⟩
       ·rw [if_neg c10] at H
        exact absurd H (by simp)
      ·rw [if_neg c8] at H
       have c8b0 : ((bt x0_1 (ji4)) == a1) = false := beq_eq_false_iff_ne.mpr c8
       have c8b1 : ((bt x0_1 (ji4)) != a1) = true := bne_iff_ne.mpr c8
       obtain rfl := Option.some.inj H
       have p7 : 0 ≤ ((ji4) : Int) := of_decide_eq_true as_
       have q7 : (ji4) < (x0_1.size : Int) := of_decide_eq_true as_
       have hx7 := bt_at x0_1 (ji4)
       replace p7 := eq_true p7
       replace q7 := eq_true q7
       go_wp2
       go_ret
       exact ⟨by first | rfl | (simp; done) | (simp only [← hji4] <;> (first | rfl | simp)) | (simp [*]; done), by repeat (first | exact Drawn0.refl _ | apply Drawn0.step)⟩
     ·rw [if_neg c6] at H
      exact absurd H (by simp)
    ·rw [if_neg c5] at H
     exact absurd H (by simp)
   ·rw [if_neg c3] at H
    have c3b0 : decide (0 < (x0_1.size : Int)) = false := decide_eq_false c3
    have c3b1 : decide (0 < x0_1.size) = false := decide_eq_false (by omega)
    clear c3
    obtain rfl := Option.some.inj H
    go_wp2
    go_ret
    exact ⟨by first | rfl | (simp; done) | (simp [*]; done) | (simp [bne_nil_isEmpty, beq_nil_isEmpty]; done) | (simp [*, bne_nil_isEmpty, beq_nil_isEmpty]; done), by repeat (first | exact Drawn0.refl _ | apply Drawn0.step)⟩

/-! ### strings_Trim: function 48 -/
mutual
noncomputable def strings_Trim.j0 : Nat → ByteArray → ByteArray → Bool → Option (ByteArray)
 | 0, _, _, _ => none
 | k + 1, x0, x1, x12 => if x12 = true then (some x0) else (if (x1.size : Int) = 1 then (if 0 < (x1.size : Int) then (strings_Trim.j1 k x0 x1 (decide ((bt x1 0) < 128))) else (none)) else (none))
noncomputable def strings_Trim.j1 : Nat → ByteArray → ByteArray → Bool → Option (ByteArray)
 | 0, _, _, _ => none
 | k + 1, x0, x1, x21 => if x21 = true then (if 0 < (x1.size : Int) then ((strings_trimRightByte.f k x0 (bt x1 0)).bind fun t140 => ((strings_trimLeftByte.f k t140 (bt x1 0)).bind fun t141 => (some t141))) else (none)) else (none)
end
noncomputable def strings_Trim.f (k : Nat) (a0 : ByteArray) (a1 : ByteArray) : Option (ByteArray) := if a0.toList = ([] : List UInt8) then (strings_Trim.j0 k a0 a1 true) else (strings_Trim.j0 k a0 a1 (a1.toList == ([] : List UInt8)))
theorem strings_Trim.mono_l : ∀ k, (∀ y0 y1 y2, LeO (strings_Trim.j0 k y0 y1 y2) (strings_Trim.j0 (k + 1) y0 y1 y2)) ∧ (∀ y0 y1 y2, LeO (strings_Trim.j1 k y0 y1 y2) (strings_Trim.j1 (k + 1) y0 y1 y2))
 | 0 => ⟨fun _ _ _ r h => by simp [strings_Trim.j0] at h, fun _ _ _ r h => by simp [strings_Trim.j1] at h⟩
 | k + 1 => by
  obtain ⟨ih0, ih1⟩ := strings_Trim.mono_l k
  refine ⟨?_, ?_⟩
  ·intro y0 y1 y2
   unfold strings_Trim.j0
   repeat' first
   | (with_reducible exact ih0 _ _ _)
   | (with_reducible exact ih1 _ _ _)
   | (with_reducible exact strings_trimLeftByte.mono _ _ _)
   | (with_reducible exact strings_trimRightByte.mono _ _ _)
   | (with_reducible exact LeO.refl _)
   | (with_reducible exact LeO.none _)
   | (with_reducible refine LeO.ite ?_ ?_)
   | (with_reducible refine LeO.bind ?_ (fun _ => ?_))
   | exact ih0 _ _ _
   | exact ih1 _ _ _
   | exact strings_trimLeftByte.mono _ _ _
   | exact strings_trimRightByte.mono _ _ _
   | exact LeO.none _
   | refine LeO.ite ?_ ?_
   | refine LeO.bind ?_ (fun _ => ?_)
  ·intro y0 y1 y2
   unfold strings_Trim.j1
   repeat' first
   | (with_reducible exact ih0 _ _ _)
   | (with_reducible exact ih1 _ _ _)
   | (with_reducible exact strings_trimLeftByte.mono _ _ _)
   | (with_reducible exact strings_trimRightByte.mono _ _ _)
   | (with_reducible exact LeO.refl _)
   | (with_reducible exact LeO.none _)
   | (with_reducible refine LeO.ite ?_ ?_)
   | (with_reducible refine LeO.bind ?_ (fun _ => ?_))
   | exact ih0 _ _ _
   | exact ih1 _ _ _
   | exact strings_trimLeftByte.mono _ _ _
   | exact strings_trimRightByte.mono _ _ _
   | exact LeO.none _
   | refine LeO.ite ?_ ?_
   | refine LeO.bind ?_ (fun _ => ?_)
theorem strings_Trim.mono : ∀ a0 a1 k, LeO (strings_Trim.f k a0 a1) (strings_Trim.f (k + 1) a0 a1) := by
 intro a0 a1 k
 obtain ⟨ih0, ih1⟩ := strings_Trim.mono_l k
 unfold strings_Trim.f
 repeat' first
   | (with_reducible exact ih0 _ _ _)
   | (with_reducible exact ih1 _ _ _)
   | (with_reducible exact strings_trimLeftByte.mono _ _ _)
   | (with_reducible exact strings_trimRightByte.mono _ _ _)
   | (with_reducible exact LeO.refl _)
   | (with_reducible exact LeO.none _)
   | (with_reducible refine LeO.ite ?_ ?_)
   | (with_reducible refine LeO.bind ?_ (fun _ => ?_))
   | exact ih0 _ _ _
   | exact ih1 _ _ _
   | exact strings_trimLeftByte.mono _ _ _
   | exact strings_trimRightByte.mono _ _ _
   | exact LeO.none _
   | refine LeO.ite ?_ ?_
   | refine LeO.bind ?_ (fun _ => ?_)
set_option maxHeartbeats 8000000 in
set_option maxRecDepth 100000 in
theorem strings_Trim.calls (k : Nat) (a0 : ByteArray) (a1 : ByteArray) (r : ByteArray) (w : World) (h : strings_Trim.f k a0 a1 = some r) :
  Calls Tryd.prog 48 #[.string a0, .string a1] w fun e w' => e = .returned (.string r) ∧ Below w.heap.size w w' := by
 have HB := am_ (Below.refl w.heap.size w)
 have H : (if a0.toList = ([] : List UInt8) then (strings_Trim.j0 k a0 a1 true) else (strings_Trim.j0 k a0 a1 (a1.toList == ([] : List UInt8)))) = some r := h
 clear h
 have HC3 := Aside0.mk H
 clear H
 go_enter Tryd.func48, Tryd.ntmps48
 go_upto_region 1 with (fail)
 repeat (go_quiet (fail); go_upto_region 1 with (fail))
 go_cut [12] (fun v12 wc => ∃ (kq : Nat) (x12_2 : Bool), v12 = .bool x12_2 ∧ Aside0 (strings_Trim.j0 kq a0 a1 x12_2 = some r) ∧ Aside0 (kq ≤ k) ∧ Aside0 (Below w.heap.size w wc))
 case first =>
  have H := HC3.out
  clear HC3
  by_cases c4 : a0.toList = ([] : List UInt8)
  ·rw [if_pos c4] at H
   have c4b0 : (a0.toList == ([] : List UInt8)) = true := beq_iff_eq.mpr c4
   have c4b1 : (a0.toList != ([] : List UInt8)) = false := bne_eq_false_iff_eq.mpr c4
   clear c4
   (first | rw [c4b0] | rw [c4b1] | rw [c4b2] | (simp only [i64_w, i32_w]; rw [c4b0]) | skip)
   have H' := Aside0.mk H
   clear H
   go_wp2
   repeat (go_quiet (fail); try go_wp2)
   go_meet
   case rel => exact ⟨_, (true), sd_, H', ⟨by first | omega | exact Nat.le_refl _⟩, ⟨bel_ HB.out⟩⟩
  ·rw [if_neg c4] at H
   have c4b0 : (a0.toList == ([] : List UInt8)) = false := beq_eq_false_iff_ne.mpr c4
   have c4b1 : (a0.toList != ([] : List UInt8)) = true := bne_iff_ne.mpr c4
   (first | rw [c4b0] | rw [c4b1] | rw [c4b2] | (simp only [i64_w, i32_w]; rw [c4b0]) | skip)
   have H' := Aside0.mk H
   clear H
   go_wp2
   repeat (go_quiet (fail); try go_wp2)
   go_meet
   case rel => exact ⟨_, ((a1.toList == ([] : List UInt8))), sd_, H', ⟨by first | omega | exact Nat.le_refl _⟩, ⟨bel_ HB.out⟩⟩
 case rest =>
  clear HC3
  try clear p2
  try clear c4
  try clear c4b0
  try clear c4b1
  try clear c4b2
  obtain ⟨kq, x12_2, rfl, HA, HJ2, HB⟩ := hcut
  cases kq with
  | zero => exact absurd HA.out (by simp [strings_Trim.j0])
  | succ kj2 =>
   have H := HA.out
   clear HA
   simp only [strings_Trim.j0] at H
   by_cases c5 : x12_2 = true
   ·subst c5
    have H1 : (some a0) = some r := by rw [if_pos rfl] at H; exact H
    clear H
    have H := H1
    clear H1
    obtain rfl := Option.some.inj H
    go_wp2
    repeat (go_quiet (fail); try go_wp2)
    go_ret
    exact ⟨fi_, bel_ HB.out⟩
   ·replace c5 := Bool.eq_false_iff.mpr c5
    subst c5
    have H1 : (if (a1.size : Int) = 1 then (if 0 < (a1.size : Int) then (strings_Trim.j1 kj2 a0 a1 (decide ((bt a1 0) < 128))) else (none)) else (none)) = some r := by rw [if_neg (show ¬ (false = true) by decide)] at H; exact H
    clear H
    have H := H1
    clear H1
    have HC6 := Aside0.mk H
    clear H
    go_upto_region 3 with (fail)
    repeat (go_quiet (fail); go_upto_region 3 with (fail))
    go_cut [21] (fun v21 wc => ∃ (kq : Nat) (x21_5 : Bool), v21 = .bool x21_5 ∧ Aside0 (strings_Trim.j1 kq a0 a1 x21_5 = some r) ∧ Aside0 (kq ≤ kj2) ∧ Aside0 (Below w.heap.size w wc))
    case first =>
     have H := HC6.out
     clear HC6
     by_cases c7 : (a1.size : Int) = 1
     ·rw [if_pos c7] at H
      have c7b0 : ((a1.size : Int) == 1) = true := beq_iff_eq.mpr c7
      have c7b1 : ((a1.size : Int) != 1) = false := bne_eq_false_iff_eq.mpr c7
      clear c7
      (first | rw [c7b0] | rw [c7b1] | rw [c7b2] | (simp only [i64_w, i32_w]; rw [c7b0]) | skip)
      by_cases c8 : 0 < (a1.size : Int)
      ·rw [if_pos c8] at H
       have c8b0 : decide (0 < (a1.size : Int)) = true := decide_eq_true c8
       have c8b1 : decide (0 < a1.size) = true := decide_eq_true (by omega)
       clear c8
       have H' := Aside0.mk H
       clear H
       have p9 : 0 ≤ (0 : Int) := (by omega)
       have q9 : 0 < a1.size := (by have : (0 : Int) < (a1.size : Int) := of_decide_eq_true as_; omega)
       have hx9 : ∀ h : 0 < a1.size, ((a1[0]'h).toNat : Int) = bt a1 0 := bt_at a1 0
       clear p9
       have qi9 : (0 < (a1.size : Int)) = True := eq_true (of_decide_eq_true as_)
       replace q9 := eq_true q9
       go_wp2
       repeat (go_quiet (fail); try go_wp2)
       go_meet
       case rel => exact ⟨_, (decide ((bt a1 0) < 128)), sd_, H', ⟨by have := HJ2.out; first | omega | exact Nat.le_refl _⟩, ⟨bel_ HB.out⟩⟩
      ·rw [if_neg c8] at H
       exact absurd H (by simp)
     ·rw [if_neg c7] at H
      exact absurd H (by simp)
    case rest =>
     clear HC6
     try clear p2
     try clear c4
     try clear c4b0
     try clear c4b1
     try clear c4b2
     try clear c5
     try clear c7
     try clear c7b0
     try clear c7b1
     try clear c7b2
     try clear c8
     try clear c8b0
     try clear c8b1
     try clear p9
     try clear q9
     try clear hx9
     try clear qi9
     try clear p2
     try clear p9
     try clear q9
     obtain ⟨kq, x21_5, rfl, HA, HJ5, HB⟩ := hcut
     cases kq with
     | zero => exact absurd HA.out (by simp [strings_Trim.j1])
     | succ kj5 =>
      have H := HA.out
      clear HA
      simp only [strings_Trim.j1] at H
      by_cases c10 : x21_5 = true
      ·subst c10
       have H1 : (if 0 < (a1.size : Int) then ((strings_trimRightByte.f kj5 a0 (bt a1 0)).bind fun t140 => ((strings_trimLeftByte.f kj5 t140 (bt a1 0)).bind fun t141 => (some t141))) else (none)) = some r := by rw [if_pos rfl] at H; exact H
       clear H
       have H := H1
       clear H1
       by_cases c11 : 0 < (a1.size : Int)
       ·rw [if_pos c11] at H
        have c11b0 : decide (0 < (a1.size : Int)) = true := decide_eq_true c11
        have c11b1 : decide (0 < a1.size) = true := decide_eq_true (by omega)
        clear c11
        replace H := Option.bind_eq_some_iff.mp H
        obtain ⟨t140, A130, H⟩ := H
        replace H : ((strings_trimLeftByte.f kj5 t140 (bt a1 0)).bind fun t141 => (some t141)) = some r := H
        have A13 := Aside0.mk A130
        clear A130
        replace H := Option.bind_eq_some_iff.mp H
        obtain ⟨t141, A150, H⟩ := H
        replace H : (some t141) = some r := H
        have A15 := Aside0.mk A150
        clear A150
        obtain rfl := Option.some.inj H
        have p12 : 0 ≤ (0 : Int) := (by omega)
        have q12 : 0 < a1.size := (by have : (0 : Int) < (a1.size : Int) := of_decide_eq_true as_; omega)
        have hx12 : ∀ h : 0 < a1.size, ((a1[0]'h).toNat : Int) = bt a1 0 := bt_at a1 0
        clear p12
        have qi12 : (0 < (a1.size : Int)) = True := eq_true (of_decide_eq_true as_)
        replace q12 := eq_true q12
        go_wp2_with (first | (go_at_call 64; (with_reducible refine (strings_trimRightByte.calls kj5 a0 (bt a1 0) t140 _ A13.out).mono ?_); rintro e w' ⟨rfl, ⟨nd, rfl⟩⟩; (try first | exact ⟨rfl, _, World.drewN_drewN _ _ _⟩ | exact ⟨rfl, _, Eq.trans (World.drewN_drewN _ _ _) (congrArg (World.drewN _) (Nat.add_assoc _ _ _))⟩); have p14 : 0 ≤ (0 : Int) := (by omega); have q14 : 0 < a1.size := (by have : (0 : Int) < (a1.size : Int) := of_decide_eq_true as_; omega); have hx14 : ∀ h : 0 < a1.size, ((a1[0]'h).toNat : Int) = bt a1 0 := bt_at a1 0; clear p14; have qi14 : (0 < (a1.size : Int)) = True := eq_true (of_decide_eq_true as_); replace q14 := eq_true q14) | (go_at_call 63; (with_reducible refine (strings_trimLeftByte.calls kj5 t140 (bt a1 0) t141 _ A15.out).mono ?_); rintro e w' ⟨rfl, ⟨nd, rfl⟩⟩; (try first | exact ⟨rfl, _, World.drewN_drewN _ _ _⟩ | exact ⟨rfl, _, Eq.trans (World.drewN_drewN _ _ _) (congrArg (World.drewN _) (Nat.add_assoc _ _ _))⟩)))
        repeat (go_quiet (first | (go_at_call 64; (with_reducible refine (strings_trimRightByte.calls kj5 a0 (bt a1 0) t140 _ A13.out).mono ?_); rintro e w' ⟨rfl, ⟨nd, rfl⟩⟩; (try first | exact ⟨rfl, _, World.drewN_drewN _ _ _⟩ | exact ⟨rfl, _, Eq.trans (World.drewN_drewN _ _ _) (congrArg (World.drewN _) (Nat.add_assoc _ _ _))⟩); have p14 : 0 ≤ (0 : Int) := (by omega); have q14 : 0 < a1.size := (by have : (0 : Int) < (a1.size : Int) := of_decide_eq_true as_; omega); have hx14 : ∀ h : 0 < a1.size, ((a1[0]'h).toNat : Int) = bt a1 0 := bt_at a1 0; clear p14; have qi14 : (0 < (a1.size : Int)) = True := eq_true (of_decide_eq_true as_); replace q14 := eq_true q14) | (go_at_call 63; (with_reducible refine (strings_trimLeftByte.calls kj5 t140 (bt a1 0) t141 _ A15.out).mono ?_); rintro e w' ⟨rfl, ⟨nd, rfl⟩⟩; (try first | exact ⟨rfl, _, World.drewN_drewN _ _ _⟩ | exact ⟨rfl, _, Eq.trans (World.drewN_drewN _ _ _) (congrArg (World.drewN _) (Nat.add_assoc _ _ _))⟩))); try go_wp2_with (first | (go_at_call 64; (with_reducible refine (strings_trimRightByte.calls kj5 a0 (bt a1 0) t140 _ A13.out).mono ?_); rintro e w' ⟨rfl, ⟨nd, rfl⟩⟩; (try first | exact ⟨rfl, _, World.drewN_drewN _ _ _⟩ | exact ⟨rfl, _, Eq.trans (World.drewN_drewN _ _ _) (congrArg (World.drewN _) (Nat.add_assoc _ _ _))⟩); have p14 : 0 ≤ (0 : Int) := (by omega); have q14 : 0 < a1.size := (by have : (0 : Int) < (a1.size : Int) := of_decide_eq_true as_; omega); have hx14 : ∀ h : 0 < a1.size, ((a1[0]'h).toNat : Int) = bt a1 0 := bt_at a1 0; clear p14; have qi14 : (0 < (a1.size : Int)) = True := eq_true (of_decide_eq_true as_); replace q14 := eq_true q14) | (go_at_call 63; (with_reducible refine (strings_trimLeftByte.calls kj5 t140 (bt a1 0) t141 _ A15.out).mono ?_); rintro e w' ⟨rfl, ⟨nd, rfl⟩⟩; (try first | exact ⟨rfl, _, World.drewN_drewN _ _ _⟩ | exact ⟨rfl, _, Eq.trans (World.drewN_drewN _ _ _) (congrArg (World.drewN _) (Nat.add_assoc _ _ _))⟩))))
        go_ret
        exact ⟨fi_, bel_ HB.out⟩
       ·rw [if_neg c11] at H
        exact absurd H (by simp)
      ·replace c10 := Bool.eq_false_iff.mpr c10
       subst c10
       have H1 : (none) = some r := by rw [if_neg (show ¬ (false = true) by decide)] at H; exact H
       clear H
       have H := H1
       clear H1
       exact absurd H (by simp)

/-! ### pairs_Value: function 26 -/
noncomputable def pairs_Value.l0 : Nat → ByteArray → Int → Int → Option (Bool)
 | 0, _, _, _ => none
 | k + 1, x0, x5, x6 => if x6 < x5 then (if 0 ≤ x6 then (if x6 < (x0.size : Int) then (if (bt x0 x6) < 32 then (some false) else (if (bt x0 x6) > 126 then (some false) else (pairs_Value.l0 k x0 x5 (wrap64 (x6 + 1))))) else (none)) else (none)) else (if (x0.size : Int) ≤ 40 then ((strings_Trim.f k x0 (⟨#[32]⟩ : ByteArray)).bind fun t142 => (some (t142.toList == x0.toList))) else (some false))
noncomputable def pairs_Value.f (k : Nat) (a0 : ByteArray) : Option (Bool) := pairs_Value.l0 k a0 (a0.size : Int) 0
theorem pairs_Value.mono_l : ∀ k, (∀ y0 y1 y2, LeO (pairs_Value.l0 k y0 y1 y2) (pairs_Value.l0 (k + 1) y0 y1 y2))
 | 0 => fun _ _ _ r h => by simp [pairs_Value.l0] at h
 | k + 1 => by
  have ih0 := pairs_Value.mono_l k
  ·intro y0 y1 y2
   unfold pairs_Value.l0
   repeat' first
   | (with_reducible exact ih0 _ _ _)
   | (with_reducible exact strings_Trim.mono _ _ _)
   | (with_reducible exact LeO.refl _)
   | (with_reducible exact LeO.none _)
   | (with_reducible refine LeO.ite ?_ ?_)
   | (with_reducible refine LeO.bind ?_ (fun _ => ?_))
   | exact ih0 _ _ _
   | exact strings_Trim.mono _ _ _
   | exact LeO.none _
   | refine LeO.ite ?_ ?_
   | refine LeO.bind ?_ (fun _ => ?_)
theorem pairs_Value.mono : ∀ a0 k, LeO (pairs_Value.f k a0) (pairs_Value.f (k + 1) a0) := by
 intro a0 k
 have ih0 := pairs_Value.mono_l k
 unfold pairs_Value.f
 repeat' first
   | (with_reducible exact ih0 _ _ _)
   | (with_reducible exact strings_Trim.mono _ _ _)
   | (with_reducible exact LeO.refl _)
   | (with_reducible exact LeO.none _)
   | (with_reducible refine LeO.ite ?_ ?_)
   | (with_reducible refine LeO.bind ?_ (fun _ => ?_))
   | exact ih0 _ _ _
   | exact strings_Trim.mono _ _ _
   | exact LeO.none _
   | refine LeO.ite ?_ ?_
   | refine LeO.bind ?_ (fun _ => ?_)
set_option maxHeartbeats 8000000 in
set_option maxRecDepth 100000 in
theorem pairs_Value.calls (k : Nat) (a0 : ByteArray) (r : Bool) (w : World) (h : pairs_Value.f k a0 = some r) :
  Calls Tryd.prog 26 #[.string a0] w fun e w' => e = .returned (.bool r) ∧ Below w.heap.size w w' := by
 have HB := am_ (Below.refl w.heap.size w)
 have H : (pairs_Value.l0 k a0 (a0.size : Int) 0) = some r := h
 clear h
 have H' := Aside0.mk H
 clear H
 go_enter Tryd.func26, Tryd.ntmps26
 go_wp2
 go_loopg [6] k (fun kq v6 w' => ∃ (x6_1 : Int), v6 = .int .i64 x6_1 ∧ Aside0 (pairs_Value.l0 kq a0 (a0.size : Int) x6_1 = some r) ∧ Aside0 (kq ≤ k) ∧ Aside0 (Below w.heap.size w w'))
 case atStart => exact ⟨(0), sd_, H', ⟨Nat.le_refl _⟩, ⟨bel_ HB.out⟩⟩
 case round =>
  clear H'
  obtain ⟨x6_1, rfl, HA, HK1, HB⟩ := hrel
  cases gk with
  | zero => exact absurd HA.out (by simp [pairs_Value.l0])
  | succ k1 =>
   have H := HA.out
   clear HA
   simp only [pairs_Value.l0] at H
   by_cases c2 : x6_1 < (a0.size : Int)
   ·rw [if_pos c2] at H
    have c2b0 : decide (x6_1 < (a0.size : Int)) = true := decide_eq_true c2
    clear c2
    by_cases c3 : 0 ≤ x6_1
    ·rw [if_pos c3] at H
     have c3b0 : decide (0 ≤ x6_1) = true := decide_eq_true c3
     clear c3
     by_cases c4 : x6_1 < (a0.size : Int)
     ·rw [if_pos c4] at H
      have c4b0 : decide (x6_1 < (a0.size : Int)) = true := decide_eq_true c4
      clear c4
      by_cases c6 : (bt a0 x6_1) < 32
      ·rw [if_pos c6] at H
       have c6b0 : decide ((bt a0 x6_1) < 32) = true := decide_eq_true c6
       clear c6
       obtain rfl := Option.some.inj H
       have p5 : 0 ≤ (x6_1 : Int) := of_decide_eq_true as_
       have q5 : x6_1 < (a0.size : Int) := of_decide_eq_true as_
       have hx5 := bt_at a0 x6_1
       replace p5 := eq_true p5
       replace q5 := eq_true q5
       go_wp2
       go_ret
       exact ⟨fi_, bel_ HB.out⟩
      ·rw [if_neg c6] at H
       have c6b0 : decide ((bt a0 x6_1) < 32) = false := decide_eq_false c6
       clear c6
       by_cases c8 : (bt a0 x6_1) > 126
       ·rw [if_pos c8] at H
        have c8b0 : decide (126 < (bt a0 x6_1)) = true := decide_eq_true c8
        clear c8
        obtain rfl := Option.some.inj H
        have p5 : 0 ≤ (x6_1 : Int) := of_decide_eq_true as_
        have q5 : x6_1 < (a0.size : Int) := of_decide_eq_true as_
        have hx5 := bt_at a0 x6_1
        replace p5 := eq_true p5
        replace q5 := eq_true q5
        have p7 : 0 ≤ (x6_1 : Int) := of_decide_eq_true as_
        have q7 : x6_1 < (a0.size : Int) := of_decide_eq_true as_
        have hx7 := bt_at a0 x6_1
        replace p7 := eq_true p7
        replace q7 := eq_true q7
        go_wp2
        go_ret
        exact ⟨fi_, bel_ HB.out⟩
       ·rw [if_neg c8] at H
        have c8b0 : decide (126 < (bt a0 x6_1)) = false := decide_eq_false c8
        clear c8
        have H' := Aside0.mk H
        clear H
        have p5 : 0 ≤ (x6_1 : Int) := of_decide_eq_true as_
        have q5 : x6_1 < (a0.size : Int) := of_decide_eq_true as_
        have hx5 := bt_at a0 x6_1
        replace p5 := eq_true p5
        replace q5 := eq_true q5
        have p7 : 0 ≤ (x6_1 : Int) := of_decide_eq_true as_
        have q7 : x6_1 < (a0.size : Int) := of_decide_eq_true as_
        have hx7 := bt_at a0 x6_1
        replace p7 := eq_true p7
        replace q7 := eq_true q7
        go_wp2
        go_roundg k1
        case measure => have := HK1.out; omega
        case rel => exact ⟨(wrap64 (x6_1 + 1)), sd_, H', ⟨by have := HK1.out; omega⟩, ⟨bel_ HB.out⟩⟩
     ·rw [if_neg c4] at H
      exact absurd H (by simp)
    ·rw [if_neg c3] at H
     exact absurd H (by simp)
   ·rw [if_neg c2] at H
    have c2b0 : decide (x6_1 < (a0.size : Int)) = false := decide_eq_false c2
    clear c2
    by_cases c9 : (a0.size : Int) ≤ 40
    ·rw [if_pos c9] at H
     have c9b0 : decide ((a0.size : Int) ≤ 40) = true := decide_eq_true c9
     have c9b1 : decide (a0.size ≤ 40) = true := decide_eq_true (by omega)
     clear c9
     replace H := Option.bind_eq_some_iff.mp H
     obtain ⟨t142, A100, H⟩ := H
     replace H : (some (t142.toList == a0.toList)) = some r := H
     have A10 := Aside0.mk A100
     clear A100
     obtain rfl := Option.some.inj H
     go_wp2_with (first | (go_at_call 48; (with_reducible refine (strings_Trim.calls k1 a0 (⟨#[32]⟩ : ByteArray) t142 _ A10.out).mono ?_); rintro e w11 ⟨rfl, hb⟩; have n0_ := am_ (below_step (bel_ HB.out) hb); clear HB; have HB := n0_; clear n0_; (try clear hb); (try clear hb2); (try clear hk); (try clear hi)))
     go_ret
     exact ⟨fi_, bel_ HB.out⟩
    ·rw [if_neg c9] at H
     have c9b0 : decide ((a0.size : Int) ≤ 40) = false := decide_eq_false c9
     have c9b1 : decide (a0.size ≤ 40) = false := decide_eq_false (by omega)
     clear c9
     obtain rfl := Option.some.inj H
     go_wp2
     go_ret
     exact ⟨fi_, bel_ HB.out⟩

/-! ### stringslite_HasPrefix: function 71 -/
noncomputable def stringslite_HasPrefix.f (a0 : ByteArray) (a1 : ByteArray) : Option (Bool) := if (a0.size : Int) ≥ (a1.size : Int) then (if 0 ≤ (a1.size : Int) then (if (a1.size : Int) ≤ (a0.size : Int) then (some ((a0.extract 0 a1.size).toList == a1.toList)) else (none)) else (none)) else (some false)
set_option maxHeartbeats 8000000 in
set_option maxRecDepth 100000 in
theorem stringslite_HasPrefix.calls (a0 : ByteArray) (a1 : ByteArray) (r : Bool) (w : World) (h : stringslite_HasPrefix.f a0 a1 = some r) :
  Calls Tryd.prog 71 #[.string a0, .string a1] w fun e w' => e = .returned (.bool r) ∧ Drawn0 w w' := by
 have H : (if (a0.size : Int) ≥ (a1.size : Int) then (if 0 ≤ (a1.size : Int) then (if (a1.size : Int) ≤ (a0.size : Int) then (some ((a0.extract 0 a1.size).toList == a1.toList)) else (none)) else (none)) else (some false)) = some r := h
 clear h
 by_cases c3 : (a0.size : Int) ≥ (a1.size : Int)
 ·rw [if_pos c3] at H
  have c3b0 : decide ((a1.size : Int) ≤ (a0.size : Int)) = true := decide_eq_true c3
  have c3b1 : decide (a1.size ≤ a0.size) = true := decide_eq_true (Int.ofNat_le.mp c3)
  clear c3
  by_cases c4 : 0 ≤ (a1.size : Int)
  ·rw [if_pos c4] at H
   have c4b0 := eq_true c4
   have c4b1 : decide (0 ≤ (a1.size : Int)) = true := decide_eq_true c4
   clear c4
   by_cases c5 : (a1.size : Int) ≤ (a0.size : Int)
   ·rw [if_pos c5] at H
    have c5b0 := eq_true c5
    have c5b1 : decide ((a1.size : Int) ≤ (a0.size : Int)) = true := decide_eq_true c5
    clear c5
    obtain rfl := Option.some.inj H
    go_enter Tryd.func71, Tryd.ntmps71
    go_wp2
    go_ret
    exact ⟨by first | rfl | (simp; done) | (simp [*]; done) | (simp [bne_nil_isEmpty, beq_nil_isEmpty]; done) | (simp [*, bne_nil_isEmpty, beq_nil_isEmpty]; done), by repeat (first | exact Drawn0.refl _ | apply Drawn0.step)⟩
   ·rw [if_neg c5] at H
    exact absurd H (by simp)
  ·rw [if_neg c4] at H
   exact absurd H (by simp)
 ·rw [if_neg c3] at H
  have c3b0 : decide ((a1.size : Int) ≤ (a0.size : Int)) = false := decide_eq_false c3
  have c3b1 : decide (a1.size ≤ a0.size) = false := decide_eq_false (fun h => c3 (Int.ofNat_le.mpr h))
  clear c3
  obtain rfl := Option.some.inj H
  go_enter Tryd.func71, Tryd.ntmps71
  go_wp2
  go_ret
  exact ⟨by first | rfl | (simp; done) | (simp [*]; done) | (simp [bne_nil_isEmpty, beq_nil_isEmpty]; done) | (simp [*, bne_nil_isEmpty, beq_nil_isEmpty]; done), by repeat (first | exact Drawn0.refl _ | apply Drawn0.step)⟩

/-! ### strings_HasPrefix: function 57 -/
noncomputable def strings_HasPrefix.f (a0 : ByteArray) (a1 : ByteArray) : Option (Bool) := (stringslite_HasPrefix.f a0 a1).bind fun t143 => (some t143)
set_option maxHeartbeats 8000000 in
set_option maxRecDepth 100000 in
theorem strings_HasPrefix.calls (a0 : ByteArray) (a1 : ByteArray) (r : Bool) (w : World) (h : strings_HasPrefix.f a0 a1 = some r) :
  Calls Tryd.prog 57 #[.string a0, .string a1] w fun e w' => e = .returned (.bool r) ∧ Drawn0 w w' := by
 have H : ((stringslite_HasPrefix.f a0 a1).bind fun t143 => (some t143)) = some r := h
 clear h
 replace H := Option.bind_eq_some_iff.mp H
 obtain ⟨t143, A30, H⟩ := H
 replace H : (some t143) = some r := H
 have A3 := Aside0.mk A30
 clear A30
 obtain rfl := Option.some.inj H
 go_enter Tryd.func57, Tryd.ntmps57
 go_wp2_with (first | ((with_reducible refine gate_callee (f := 71) rfl ?_); refine goesL_ (some 7) rfl rfl Tryd.func71 kr_ rfl #[.string a0, .string a1] rfl rl_ ?_; (with_reducible refine (stringslite_HasPrefix.calls a0 a1 t143 _ A3.out).mono ?_); rintro e w' ⟨rfl, ⟨nd, rfl⟩⟩; refine ⟨_, rfl, ?_⟩))
 go_ret
 exact ⟨by first | rfl | (simp; done) | (simp [*]; done) | (simp [bne_nil_isEmpty, beq_nil_isEmpty]; done) | (simp [*, bne_nil_isEmpty, beq_nil_isEmpty]; done), by repeat (first | exact Drawn0.refl _ | apply Drawn0.step)⟩

/-! ### path_Is: function 49 -/
noncomputable def path_Is.ok (c : UInt8) : Bool := decide (33 ≤ c.toNat) && (decide (c.toNat ≤ 126) && (c.toNat != 63 && c.toNat != 35))
noncomputable def path_Is.f (a0 : ByteArray) : Option (Bool) := if a0.data.toList.all path_Is.ok = true then ((strings_HasPrefix.f a0 (⟨#[47]⟩ : ByteArray)).bind fun t => (if t = true then (some (decide ((a0.size : Int) ≤ 60))) else (some false))) else (some false)
theorem path_Is.take_succ (s : ByteArray) (pos : Nat) (h : pos < s.size) (ha : (s.data.toList.take pos).all path_Is.ok = true) (hc : path_Is.ok (s[pos]'h) = true) : (s.data.toList.take (pos + 1)).all path_Is.ok = true := by
 rw [List.take_succ_eq_append_getElem (by simpa using h), List.all_append, ha]
 simp only [List.all_cons, List.all_nil, Bool.and_true, Bool.true_and]
 exact hc
theorem path_Is.not_all (s : ByteArray) (pos : Nat) (h : pos < s.size) (hc : ¬ path_Is.ok (s[pos]'h) = true) : ¬ s.data.toList.all path_Is.ok = true := by
 intro ha
 exact hc (List.all_eq_true.1 ha _ (List.getElem_mem (l := s.data.toList) (n := pos) (by simpa using h)))
theorem path_Is.bad_rune (s : ByteArray) (pos : Nat) (h : pos < s.size) (hc : ¬ path_Is.ok (s[pos]'h) = true) :
  (Utf8.decode s pos).1 < 33 ∨ (33 ≤ (Utf8.decode s pos).1 ∧ 126 < (Utf8.decode s pos).1) ∨ (Utf8.decode s pos).1 = 63 ∨ (Utf8.decode s pos).1 = 35 := by
 by_cases ha : (s[pos]'h).toNat < 128
 ·rw [decode_ascii s pos h ha]
  simp only [path_Is.ok, Bool.and_eq_true, decide_eq_true_eq, bne_iff_ne, not_and] at hc
  omega
 ·have := (decode_high s pos h (by omega)).1
  omega
set_option maxHeartbeats 8000000 in
set_option maxRecDepth 100000 in
theorem path_Is.calls (a0 : ByteArray) (r : Bool) (w : World) (h : path_Is.f a0 = some r) :
  Calls Tryd.prog 49 #[.string a0] w fun e w' => e = .returned (.bool r) ∧ Below w.heap.size w w' := by
 have H := Aside0.mk h
 clear h
 go_enter Tryd.func49, Tryd.ntmps49
 go_wp2
 go_loopw [] (fun wr => ∃ pos : Nat, wr = w.iter a0 pos ∧ pos ≤ a0.size ∧ (a0.data.toList.take pos).all path_Is.ok = true) (fun wr => a0.size - wr.iterPos w.heap.size)
 case atStart => exact ⟨0, rfl, by omega, by simp⟩
 case round =>
  obtain ⟨pos, rfl, hle, hall0⟩ := hrel
  have hall := Aside0.mk hall0
  clear hall0
  by_cases hp : pos < a0.size
  ·by_cases hc : path_Is.ok (a0[pos]'hp) = true
   ·have hc' := hc
    simp only [path_Is.ok, Bool.and_eq_true, decide_eq_true_eq, bne_iff_ne] at hc'
    obtain ⟨h1, h2, h3, h4⟩ := hc'
    have hnx := fun ty => run_next_ascii (P := Tryd.prog) w a0 pos ty hp (by omega)
    have hs := am_ (path_Is.take_succ a0 pos hp hall.out hc)
    clear hc hall
    have b1 : decide (((a0[pos]'hp).toNat : Int) < 33) = false := decide_eq_false (by omega)
    have b2 : decide (126 < ((a0[pos]'hp).toNat : Int)) = false := decide_eq_false (by omega)
    have b3 : (((a0[pos]'hp).toNat : Int) == 63) = false := beq_eq_false_iff_ne.2 (by omega)
    have b4 : (((a0[pos]'hp).toNat : Int) == 35) = false := beq_eq_false_iff_ne.2 (by omega)
    clear h1 h2 h3 h4
    go_wp2
    go_roundw
    case rel => exact ⟨pos + 1, rfl, by omega, hs.out⟩
    case measure => simp [World.iterPos_iter]; omega
   ·have hbad := path_Is.bad_rune a0 pos hp hc
    have hr : r = false := by
     have := H.out
     rw [path_Is.f, if_neg (path_Is.not_all a0 pos hp hc)] at this
     exact (Option.some.inj this).symm
    subst hr
    clear H hall hc
    have hnx := fun ty => run_next_any (P := Tryd.prog) w a0 pos ty hp
    generalize (Utf8.decode a0 pos).1 = c at hnx hbad
    generalize (Utf8.decode a0 pos).2 = n at hnx
    by_cases h1 : c < 33
    ·have b1 : decide ((c : Int) < 33) = true := decide_eq_true (by omega)
     clear hbad h1
     go_wp2
     go_ret
     exact ⟨rfl, (Below.refl _ w).alloc (Nat.le_refl _) _⟩
    ·have b1 : decide ((c : Int) < 33) = false := decide_eq_false (by omega)
     by_cases h2 : 126 < c
     ·have b2 : decide (126 < (c : Int)) = true := decide_eq_true (by omega)
      clear hbad h1 h2
      go_wp2
      go_ret
      exact ⟨rfl, (Below.refl _ w).alloc (Nat.le_refl _) _⟩
     ·have b2 : decide (126 < (c : Int)) = false := decide_eq_false (by omega)
      by_cases h3 : c = 63
      ·subst h3
       clear hbad h1 h2 b1 b2
       go_wp2
       go_ret
       exact ⟨rfl, (Below.refl _ w).alloc (Nat.le_refl _) _⟩
      ·obtain rfl : c = 35 := by omega
       clear hbad h1 h2 b1 b2 h3
       go_wp2
       go_ret
       exact ⟨rfl, (Below.refl _ w).alloc (Nat.le_refl _) _⟩
  ·have hnx := fun ty => run_next_end (P := Tryd.prog) w a0 pos ty hp
   have ha : a0.data.toList.all path_Is.ok = true := by
    have := hall.out
    rwa [List.take_of_length_le (by simp; omega)] at this
   have H2 := H.out
   clear H hall
   rw [path_Is.f, if_pos ha] at H2
   clear ha
   obtain ⟨t, ht, H2⟩ := Option.bind_eq_some_iff.1 H2
   have HT := Aside0.mk ht
   clear ht
   cases t
   ·rw [if_neg (by simp)] at H2
    obtain rfl := Option.some.inj H2
    clear H2
    go_wp2_with ((with_reducible refine (strings_HasPrefix.calls a0 _ false _ HT.out).mono ?_); rintro e w' ⟨rfl, ⟨nd, rfl⟩⟩)
    go_ret
    exact ⟨rfl, by repeat (first | (with_reducible first | exact Below.refl _ _ | apply below_alloc | apply pw_below_drewN | apply below_drew1 | apply World.iter) | exact (Below.refl _ w).alloc (Nat.le_refl _) _)⟩
   ·rw [if_pos rfl] at H2
    obtain rfl := Option.some.inj H2
    clear H2
    go_wp2_with ((with_reducible refine (strings_HasPrefix.calls a0 _ true _ HT.out).mono ?_); rintro e w' ⟨rfl, ⟨nd, rfl⟩⟩)
    go_ret
    exact ⟨by simp, by repeat (first | (with_reducible first | exact Below.refl _ _ | apply below_alloc | apply pw_below_drewN | apply below_drew1 | apply World.iter) | exact (Below.refl _ w).alloc (Nat.le_refl _) _)⟩

/-! ### stringslite_HasSuffix: function 79 -/
noncomputable def stringslite_HasSuffix.f (a0 : ByteArray) (a1 : ByteArray) : Option (Bool) := if (a0.size : Int) ≥ (a1.size : Int) then (if 0 ≤ (wrap64 ((a0.size : Int) - (a1.size : Int))) then (if (wrap64 ((a0.size : Int) - (a1.size : Int))) ≤ (a0.size : Int) then (some ((a0.extract ((wrap64 ((a0.size : Int) - (a1.size : Int))) : Int).toNat a0.size).toList == a1.toList)) else (none)) else (none)) else (some false)
set_option maxHeartbeats 8000000 in
set_option maxRecDepth 100000 in
theorem stringslite_HasSuffix.calls (a0 : ByteArray) (a1 : ByteArray) (r : Bool) (w : World) (h : stringslite_HasSuffix.f a0 a1 = some r) :
  Calls Tryd.prog 79 #[.string a0, .string a1] w fun e w' => e = .returned (.bool r) ∧ Drawn0 w w' := by
 have H : (if (a0.size : Int) ≥ (a1.size : Int) then (if 0 ≤ (wrap64 ((a0.size : Int) - (a1.size : Int))) then (if (wrap64 ((a0.size : Int) - (a1.size : Int))) ≤ (a0.size : Int) then (some ((a0.extract ((wrap64 ((a0.size : Int) - (a1.size : Int))) : Int).toNat a0.size).toList == a1.toList)) else (none)) else (none)) else (some false)) = some r := h
 clear h
 by_cases c3 : (a0.size : Int) ≥ (a1.size : Int)
 ·rw [if_pos c3] at H
  have c3b0 : decide ((a1.size : Int) ≤ (a0.size : Int)) = true := decide_eq_true c3
  have c3b1 : decide (a1.size ≤ a0.size) = true := decide_eq_true (Int.ofNat_le.mp c3)
  clear c3
  obtain ⟨ji4, hji4⟩ : ∃ j_ : Int, (wrap64 ((a0.size : Int) - (a1.size : Int))) = j_ := ⟨_, rfl⟩
  replace H : (if 0 ≤ (ji4) then (if (ji4) ≤ (a0.size : Int) then (some ((a0.extract ((ji4) : Int).toNat a0.size).toList == a1.toList)) else (none)) else (none)) = some r := by first | (rw [hji4] at H; exact H) | (simp only [hji4] at H ⊢; exact H)
  have hji4w : (IntKind.i64.wrap ((a0.size : Int) - (a1.size : Int))) = ji4 := (i64_w _).trans hji4
  by_cases c5 : 0 ≤ (ji4)
  ·rw [if_pos c5] at H
   have c5b0 := eq_true c5
   have c5b1 : decide (0 ≤ (ji4)) = true := decide_eq_true c5
   clear c5
   by_cases c6 : (ji4) ≤ (a0.size : Int)
   ·rw [if_pos c6] at H
    have c6b0 := eq_true c6
    have c6b1 : decide ((ji4) ≤ (a0.size : Int)) = true := decide_eq_true c6
    clear c6
    obtain rfl := Option.some.inj H
    go_enter Tryd.func79, Tryd.ntmps79
    go_wp2
    go_ret
    exact ⟨by first | rfl | (simp; done) | (simp only [← hji4] <;> (first | rfl | simp)) | (simp [*]; done), by repeat (first | exact Drawn0.refl _ | apply Drawn0.step)⟩
   ·rw [if_neg c6] at H
    exact absurd H (by simp)
  ·rw [if_neg c5] at H
   exact absurd H (by simp)
 ·rw [if_neg c3] at H
  have c3b0 : decide ((a1.size : Int) ≤ (a0.size : Int)) = false := decide_eq_false c3
  have c3b1 : decide (a1.size ≤ a0.size) = false := decide_eq_false (fun h => c3 (Int.ofNat_le.mpr h))
  clear c3
  obtain rfl := Option.some.inj H
  go_enter Tryd.func79, Tryd.ntmps79
  go_wp2
  go_ret
  exact ⟨by first | rfl | (simp; done) | (simp [*]; done) | (simp [bne_nil_isEmpty, beq_nil_isEmpty]; done) | (simp [*, bne_nil_isEmpty, beq_nil_isEmpty]; done), by repeat (first | exact Drawn0.refl _ | apply Drawn0.step)⟩

/-! ### strings_HasSuffix: function 70 -/
noncomputable def strings_HasSuffix.f (a0 : ByteArray) (a1 : ByteArray) : Option (Bool) := (stringslite_HasSuffix.f a0 a1).bind fun t144 => (some t144)
set_option maxHeartbeats 8000000 in
set_option maxRecDepth 100000 in
theorem strings_HasSuffix.calls (a0 : ByteArray) (a1 : ByteArray) (r : Bool) (w : World) (h : strings_HasSuffix.f a0 a1 = some r) :
  Calls Tryd.prog 70 #[.string a0, .string a1] w fun e w' => e = .returned (.bool r) ∧ Drawn0 w w' := by
 have H : ((stringslite_HasSuffix.f a0 a1).bind fun t144 => (some t144)) = some r := h
 clear h
 replace H := Option.bind_eq_some_iff.mp H
 obtain ⟨t144, A30, H⟩ := H
 replace H : (some t144) = some r := H
 have A3 := Aside0.mk A30
 clear A30
 obtain rfl := Option.some.inj H
 go_enter Tryd.func70, Tryd.ntmps70
 go_wp2_with (first | ((with_reducible refine gate_callee (f := 79) rfl ?_); refine goesL_ (some 7) rfl rfl Tryd.func79 kr_ rfl #[.string a0, .string a1] rfl rl_ ?_; (with_reducible refine (stringslite_HasSuffix.calls a0 a1 t144 _ A3.out).mono ?_); rintro e w' ⟨rfl, ⟨nd, rfl⟩⟩; refine ⟨_, rfl, ?_⟩))
 go_ret
 exact ⟨by first | rfl | (simp; done) | (simp [*]; done) | (simp [bne_nil_isEmpty, beq_nil_isEmpty]; done) | (simp [*, bne_nil_isEmpty, beq_nil_isEmpty]; done), by repeat (first | exact Drawn0.refl _ | apply Drawn0.step)⟩

/-! ### path_above: function 50 -/
noncomputable def path_above.f (a0 : ByteArray) : Option (Bool) := (path_Is.f a0).bind fun t145 => (if t145 = true then (if a0.toList = ([47] : List UInt8) then (some true) else ((strings_HasSuffix.f a0 (⟨#[47]⟩ : ByteArray)).bind fun t146 => (some (!t146)))) else (some false))
set_option maxHeartbeats 8000000 in
set_option maxRecDepth 100000 in
theorem path_above.calls (a0 : ByteArray) (r : Bool) (w : World) (h : path_above.f a0 = some r) :
  Calls Tryd.prog 50 #[.string a0] w fun e w' => e = .returned (.bool r) ∧ Below w.heap.size w w' := by
 have HB := am_ (Below.refl w.heap.size w)
 have H : ((path_Is.f a0).bind fun t145 => (if t145 = true then (if a0.toList = ([47] : List UInt8) then (some true) else ((strings_HasSuffix.f a0 (⟨#[47]⟩ : ByteArray)).bind fun t146 => (some (!t146)))) else (some false))) = some r := h
 clear h
 replace H := Option.bind_eq_some_iff.mp H
 obtain ⟨t145, A20, H⟩ := H
 replace H : (if t145 = true then (if a0.toList = ([47] : List UInt8) then (some true) else ((strings_HasSuffix.f a0 (⟨#[47]⟩ : ByteArray)).bind fun t146 => (some (!t146)))) else (some false)) = some r := H
 have A2 := Aside0.mk A20
 clear A20
 by_cases c3 : t145 = true
 ·subst c3
  have H1 : (if a0.toList = ([47] : List UInt8) then (some true) else ((strings_HasSuffix.f a0 (⟨#[47]⟩ : ByteArray)).bind fun t146 => (some (!t146)))) = some r := by rw [if_pos rfl] at H; exact H
  clear H
  have H := H1
  clear H1
  by_cases c4 : a0.toList = ([47] : List UInt8)
  ·rw [if_pos c4] at H
   have c4b0 : (a0.toList == ([47] : List UInt8)) = true := beq_iff_eq.mpr c4
   have c4b1 : (a0.toList != ([47] : List UInt8)) = false := bne_eq_false_iff_eq.mpr c4
   clear c4
   obtain rfl := Option.some.inj H
   go_enter Tryd.func50, Tryd.ntmps50
   go_wp2_with (first | ((with_reducible refine gate_callee (f := 49) rfl ?_); refine goesL_ (some 4) rfl rfl Tryd.func49 kr_ rfl #[.string a0] rfl rl_ ?_; (with_reducible refine (path_Is.calls a0 true _ A2.out).mono ?_); rintro e w5 ⟨rfl, hb⟩; refine ⟨_, rfl, ?_⟩; have n0_ := am_ (below_step (bel_ HB.out) hb); clear HB; have HB := n0_; clear n0_; (try clear hb); (try clear hb2); (try clear hk); (try clear hi)))
   go_ret
   exact ⟨fi_, bel_ HB.out⟩
  ·rw [if_neg c4] at H
   have c4b0 : (a0.toList == ([47] : List UInt8)) = false := beq_eq_false_iff_ne.mpr c4
   have c4b1 : (a0.toList != ([47] : List UInt8)) = true := bne_iff_ne.mpr c4
   replace H := Option.bind_eq_some_iff.mp H
   obtain ⟨t146, A60, H⟩ := H
   replace H : (some (!t146)) = some r := H
   have A6 := Aside0.mk A60
   clear A60
   obtain rfl := Option.some.inj H
   go_enter Tryd.func50, Tryd.ntmps50
   go_wp2_with (first | ((with_reducible refine gate_callee (f := 49) rfl ?_); refine goesL_ (some 4) rfl rfl Tryd.func49 kr_ rfl #[.string a0] rfl rl_ ?_; (with_reducible refine (path_Is.calls a0 true _ A2.out).mono ?_); rintro e w7 ⟨rfl, hb⟩; refine ⟨_, rfl, ?_⟩; have n0_ := am_ (below_step (bel_ HB.out) hb); clear HB; have HB := n0_; clear n0_; (try clear hb); (try clear hb2); (try clear hk); (try clear hi)) | (go_at_call 70; (with_reducible refine (strings_HasSuffix.calls a0 (⟨#[47]⟩ : ByteArray) t146 _ A6.out).mono ?_); rintro e w' ⟨rfl, ⟨nd, rfl⟩⟩))
   go_ret
   exact ⟨fi_, bel_ HB.out⟩
 ·replace c3 := Bool.eq_false_iff.mpr c3
  subst c3
  have H1 : (some false) = some r := by rw [if_neg (show ¬ (false = true) by decide)] at H; exact H
  clear H
  have H := H1
  clear H1
  obtain rfl := Option.some.inj H
  go_enter Tryd.func50, Tryd.ntmps50
  go_wp2_with (first | ((with_reducible refine gate_callee (f := 49) rfl ?_); refine goesL_ (some 4) rfl rfl Tryd.func49 kr_ rfl #[.string a0] rfl rl_ ?_; (with_reducible refine (path_Is.calls a0 false _ A2.out).mono ?_); rintro e w8 ⟨rfl, hb⟩; refine ⟨_, rfl, ?_⟩; have n0_ := am_ (below_step (bel_ HB.out) hb); clear HB; have HB := n0_; clear n0_; (try clear hb); (try clear hb2); (try clear hk); (try clear hi)))
  go_ret
  exact ⟨fi_, bel_ HB.out⟩

/-! ### path_May: function 27 -/
noncomputable def path_May.f (a0_0 : Int) (a0_1 : ByteArray) : Option (Bool) := if a0_0 = 1 then ((path_Is.f a0_1).bind fun t148 => (if t148 = true then (some true) else (if a0_0 = 2 then ((path_above.f a0_1).bind fun t149 => (some t149)) else (some false)))) else (if a0_0 = 2 then ((path_above.f a0_1).bind fun t150 => (some t150)) else (some false))
set_option maxHeartbeats 8000000 in
set_option maxRecDepth 100000 in
theorem path_May.calls (a0_0 : Int) (a0_1 : ByteArray) (r : Bool) (w : World) (h : path_May.f a0_0 a0_1 = some r) :
  Calls Tryd.prog 27 #[.agg #[.int .i64 a0_0, .string a0_1]] w fun e w' => e = .returned (.bool r) ∧ Below w.heap.size w w' := by
 have hu23 := Tryd.underlying23
 have HB := am_ (Below.refl w.heap.size w)
 have H : (if a0_0 = 1 then ((path_Is.f a0_1).bind fun t148 => (if t148 = true then (some true) else (if a0_0 = 2 then ((path_above.f a0_1).bind fun t149 => (some t149)) else (some false)))) else (if a0_0 = 2 then ((path_above.f a0_1).bind fun t150 => (some t150)) else (some false))) = some r := h
 clear h
 by_cases c2 : a0_0 = 1
 ·rw [if_pos c2] at H
  have c2b0 : (a0_0 == 1) = true := beq_iff_eq.mpr c2
  have c2b1 : (a0_0 != 1) = false := bne_eq_false_iff_eq.mpr c2
  clear c2
  replace H := Option.bind_eq_some_iff.mp H
  obtain ⟨t148, A30, H⟩ := H
  replace H : (if t148 = true then (some true) else (if a0_0 = 2 then ((path_above.f a0_1).bind fun t149 => (some t149)) else (some false))) = some r := H
  have A3 := Aside0.mk A30
  clear A30
  by_cases c4 : t148 = true
  ·subst c4
   have H1 : (some true) = some r := by rw [if_pos rfl] at H; exact H
   clear H
   have H := H1
   clear H1
   obtain rfl := Option.some.inj H
   go_enter Tryd.func27, Tryd.ntmps27
   go_wp2_with (first | ((with_reducible refine gate_dst (N := 1) rfl ?_); refine box_event ?hg (N := 1) ?hd (cs := #[.int .i64 a0_0, .string a0_1]) (t := 23) ?hr ?_; (case hd => rfl); (case hg => rfl); (case hr => first | (go_simp; done) | (go_simp; rfl)); intro gb147 hg w5 hbox hb; have n0_ := am_ (below_step (bel_ HB.out) hb); have n1_ := am_ (hbox); have n2_ := am_ ((by rw [hg]; exact (below_size (bel_ HB.out)) : w.heap.size ≤ gb147)); have n3_ := am_ ((by rw [hg]; exact (below_size (bel_ HB.out)) : w.heap.size ≤ gb147)); clear HB; have HB := n0_; have BK147 := n1_; have GW147 := n2_; have GE147 := n3_; clear n0_ n1_ n2_ n3_ hb hbox hg; have hcz6_0 : w5.cell? ⟨gb147, 0, none⟩ = some (.int .i64 a0_0) := (blk_cell BK147.out 0).trans rfl; have hcz6_1 : w5.cell? ⟨gb147, 1, none⟩ = some (.string a0_1) := (blk_cell BK147.out 1).trans rfl; have hfz6_0 := blk_frozen BK147.out 0; have hfz6_1 := blk_frozen BK147.out 1) | (go_at_call 49; (with_reducible refine (path_Is.calls a0_1 true _ A3.out).mono ?_); rintro e w7 ⟨rfl, hb⟩; have n0_ := am_ (blk_below (g := gb147) (o := .cells #[.int .i64 a0_0, .string a0_1] 23 (0, 0)) (blk_ BK147.out) hb); have n1_ := am_ (below_step (bel_ HB.out) hb); clear BK147 HB; have BK147 := n0_; have HB := n1_; clear n0_ n1_; (try clear hb); (try clear hb2); (try clear hk); (try clear hi)))
   go_ret
   exact ⟨fi_, bel_ HB.out⟩
  ·replace c4 := Bool.eq_false_iff.mpr c4
   subst c4
   have H1 : (if a0_0 = 2 then ((path_above.f a0_1).bind fun t149 => (some t149)) else (some false)) = some r := by rw [if_neg (show ¬ (false = true) by decide)] at H; exact H
   clear H
   have H := H1
   clear H1
   by_cases c8 : a0_0 = 2
   ·rw [if_pos c8] at H
    have c8b0 : (a0_0 == 2) = true := beq_iff_eq.mpr c8
    have c8b1 : (a0_0 != 2) = false := bne_eq_false_iff_eq.mpr c8
    clear c8
    replace H := Option.bind_eq_some_iff.mp H
    obtain ⟨t149, A90, H⟩ := H
    replace H : (some t149) = some r := H
    have A9 := Aside0.mk A90
    clear A90
    obtain rfl := Option.some.inj H
    go_enter Tryd.func27, Tryd.ntmps27
    go_wp2_with (first | ((with_reducible refine gate_dst (N := 1) rfl ?_); refine box_event ?hg (N := 1) ?hd (cs := #[.int .i64 a0_0, .string a0_1]) (t := 23) ?hr ?_; (case hd => rfl); (case hg => rfl); (case hr => first | (go_simp; done) | (go_simp; rfl)); intro gb147 hg w10 hbox hb; have n0_ := am_ (below_step (bel_ HB.out) hb); have n1_ := am_ (hbox); have n2_ := am_ ((by rw [hg]; exact (below_size (bel_ HB.out)) : w.heap.size ≤ gb147)); have n3_ := am_ ((by rw [hg]; exact (below_size (bel_ HB.out)) : w.heap.size ≤ gb147)); clear HB; have HB := n0_; have BK147 := n1_; have GW147 := n2_; have GE147 := n3_; clear n0_ n1_ n2_ n3_ hb hbox hg; have hcz11_0 : w10.cell? ⟨gb147, 0, none⟩ = some (.int .i64 a0_0) := (blk_cell BK147.out 0).trans rfl; have hcz11_1 : w10.cell? ⟨gb147, 1, none⟩ = some (.string a0_1) := (blk_cell BK147.out 1).trans rfl; have hfz11_0 := blk_frozen BK147.out 0; have hfz11_1 := blk_frozen BK147.out 1) | (go_at_call 49; (with_reducible refine (path_Is.calls a0_1 false _ A3.out).mono ?_); rintro e w12 ⟨rfl, hb⟩; have n0_ := am_ (blk_below (g := gb147) (o := .cells #[.int .i64 a0_0, .string a0_1] 23 (0, 0)) (blk_ BK147.out) hb); have n1_ := am_ (below_step (bel_ HB.out) hb); clear BK147 HB; have BK147 := n0_; have HB := n1_; clear n0_ n1_; (try clear hb); (try clear hb2); (try clear hk); (try clear hi); have hcz13_0 : w12.cell? ⟨gb147, 0, none⟩ = some (.int .i64 a0_0) := (blk_cell BK147.out 0).trans rfl; have hcz13_1 : w12.cell? ⟨gb147, 1, none⟩ = some (.string a0_1) := (blk_cell BK147.out 1).trans rfl; have hfz13_0 := blk_frozen BK147.out 0; have hfz13_1 := blk_frozen BK147.out 1) | (go_at_call 50; (with_reducible refine (path_above.calls a0_1 t149 _ A9.out).mono ?_); rintro e w14 ⟨rfl, hb⟩; have n0_ := am_ (blk_below (g := gb147) (o := .cells #[.int .i64 a0_0, .string a0_1] 23 (0, 0)) (blk_ BK147.out) hb); have n1_ := am_ (below_step (bel_ HB.out) hb); clear BK147 HB; have BK147 := n0_; have HB := n1_; clear n0_ n1_; (try clear hb); (try clear hb2); (try clear hk); (try clear hi)))
    go_ret
    exact ⟨fi_, bel_ HB.out⟩
   ·rw [if_neg c8] at H
    have c8b0 : (a0_0 == 2) = false := beq_eq_false_iff_ne.mpr c8
    have c8b1 : (a0_0 != 2) = true := bne_iff_ne.mpr c8
    obtain rfl := Option.some.inj H
    go_enter Tryd.func27, Tryd.ntmps27
    go_wp2_with (first | ((with_reducible refine gate_dst (N := 1) rfl ?_); refine box_event ?hg (N := 1) ?hd (cs := #[.int .i64 a0_0, .string a0_1]) (t := 23) ?hr ?_; (case hd => rfl); (case hg => rfl); (case hr => first | (go_simp; done) | (go_simp; rfl)); intro gb147 hg w15 hbox hb; have n0_ := am_ (below_step (bel_ HB.out) hb); have n1_ := am_ (hbox); have n2_ := am_ ((by rw [hg]; exact (below_size (bel_ HB.out)) : w.heap.size ≤ gb147)); have n3_ := am_ ((by rw [hg]; exact (below_size (bel_ HB.out)) : w.heap.size ≤ gb147)); clear HB; have HB := n0_; have BK147 := n1_; have GW147 := n2_; have GE147 := n3_; clear n0_ n1_ n2_ n3_ hb hbox hg; have hcz16_0 : w15.cell? ⟨gb147, 0, none⟩ = some (.int .i64 a0_0) := (blk_cell BK147.out 0).trans rfl; have hcz16_1 : w15.cell? ⟨gb147, 1, none⟩ = some (.string a0_1) := (blk_cell BK147.out 1).trans rfl; have hfz16_0 := blk_frozen BK147.out 0; have hfz16_1 := blk_frozen BK147.out 1) | (go_at_call 49; (with_reducible refine (path_Is.calls a0_1 false _ A3.out).mono ?_); rintro e w17 ⟨rfl, hb⟩; have n0_ := am_ (blk_below (g := gb147) (o := .cells #[.int .i64 a0_0, .string a0_1] 23 (0, 0)) (blk_ BK147.out) hb); have n1_ := am_ (below_step (bel_ HB.out) hb); clear BK147 HB; have BK147 := n0_; have HB := n1_; clear n0_ n1_; (try clear hb); (try clear hb2); (try clear hk); (try clear hi); have hcz18_0 : w17.cell? ⟨gb147, 0, none⟩ = some (.int .i64 a0_0) := (blk_cell BK147.out 0).trans rfl; have hcz18_1 : w17.cell? ⟨gb147, 1, none⟩ = some (.string a0_1) := (blk_cell BK147.out 1).trans rfl; have hfz18_0 := blk_frozen BK147.out 0; have hfz18_1 := blk_frozen BK147.out 1))
    go_ret
    exact ⟨fi_, bel_ HB.out⟩
 ·rw [if_neg c2] at H
  have c2b0 : (a0_0 == 1) = false := beq_eq_false_iff_ne.mpr c2
  have c2b1 : (a0_0 != 1) = true := bne_iff_ne.mpr c2
  by_cases c19 : a0_0 = 2
  ·rw [if_pos c19] at H
   have c19b0 : (a0_0 == 2) = true := beq_iff_eq.mpr c19
   have c19b1 : (a0_0 != 2) = false := bne_eq_false_iff_eq.mpr c19
   clear c19
   replace H := Option.bind_eq_some_iff.mp H
   obtain ⟨t150, A200, H⟩ := H
   replace H : (some t150) = some r := H
   have A20 := Aside0.mk A200
   clear A200
   obtain rfl := Option.some.inj H
   go_enter Tryd.func27, Tryd.ntmps27
   go_wp2_with (first | ((with_reducible refine gate_dst (N := 1) rfl ?_); refine box_event ?hg (N := 1) ?hd (cs := #[.int .i64 a0_0, .string a0_1]) (t := 23) ?hr ?_; (case hd => rfl); (case hg => rfl); (case hr => first | (go_simp; done) | (go_simp; rfl)); intro gb147 hg w21 hbox hb; have n0_ := am_ (below_step (bel_ HB.out) hb); have n1_ := am_ (hbox); have n2_ := am_ ((by rw [hg]; exact (below_size (bel_ HB.out)) : w.heap.size ≤ gb147)); have n3_ := am_ ((by rw [hg]; exact (below_size (bel_ HB.out)) : w.heap.size ≤ gb147)); clear HB; have HB := n0_; have BK147 := n1_; have GW147 := n2_; have GE147 := n3_; clear n0_ n1_ n2_ n3_ hb hbox hg; have hcz22_0 : w21.cell? ⟨gb147, 0, none⟩ = some (.int .i64 a0_0) := (blk_cell BK147.out 0).trans rfl; have hcz22_1 : w21.cell? ⟨gb147, 1, none⟩ = some (.string a0_1) := (blk_cell BK147.out 1).trans rfl; have hfz22_0 := blk_frozen BK147.out 0; have hfz22_1 := blk_frozen BK147.out 1) | (go_at_call 50; (with_reducible refine (path_above.calls a0_1 t150 _ A20.out).mono ?_); rintro e w23 ⟨rfl, hb⟩; have n0_ := am_ (blk_below (g := gb147) (o := .cells #[.int .i64 a0_0, .string a0_1] 23 (0, 0)) (blk_ BK147.out) hb); have n1_ := am_ (below_step (bel_ HB.out) hb); clear BK147 HB; have BK147 := n0_; have HB := n1_; clear n0_ n1_; (try clear hb); (try clear hb2); (try clear hk); (try clear hi)))
   go_ret
   exact ⟨fi_, bel_ HB.out⟩
  ·rw [if_neg c19] at H
   have c19b0 : (a0_0 == 2) = false := beq_eq_false_iff_ne.mpr c19
   have c19b1 : (a0_0 != 2) = true := bne_iff_ne.mpr c19
   obtain rfl := Option.some.inj H
   go_enter Tryd.func27, Tryd.ntmps27
   go_wp2_with (first | ((with_reducible refine gate_dst (N := 1) rfl ?_); refine box_event ?hg (N := 1) ?hd (cs := #[.int .i64 a0_0, .string a0_1]) (t := 23) ?hr ?_; (case hd => rfl); (case hg => rfl); (case hr => first | (go_simp; done) | (go_simp; rfl)); intro gb147 hg w24 hbox hb; have n0_ := am_ (below_step (bel_ HB.out) hb); have n1_ := am_ (hbox); have n2_ := am_ ((by rw [hg]; exact (below_size (bel_ HB.out)) : w.heap.size ≤ gb147)); have n3_ := am_ ((by rw [hg]; exact (below_size (bel_ HB.out)) : w.heap.size ≤ gb147)); clear HB; have HB := n0_; have BK147 := n1_; have GW147 := n2_; have GE147 := n3_; clear n0_ n1_ n2_ n3_ hb hbox hg; have hcz25_0 : w24.cell? ⟨gb147, 0, none⟩ = some (.int .i64 a0_0) := (blk_cell BK147.out 0).trans rfl; have hcz25_1 : w24.cell? ⟨gb147, 1, none⟩ = some (.string a0_1) := (blk_cell BK147.out 1).trans rfl; have hfz25_0 := blk_frozen BK147.out 0; have hfz25_1 := blk_frozen BK147.out 1))
   go_ret
   exact ⟨fi_, bel_ HB.out⟩

/-! ### api_Pair_51: function 51 -/
set_option maxHeartbeats 8000000 in
set_option maxRecDepth 100000 in
theorem api_Pair_51.calls (A0 : Option Addr) (c0 : Nat) (l0 : List (S49)) (w : World) (hr0 : Kd.C k49 w A0 l0.length l0) (p : S49 → Bool) (g : Nat) (lb : Array Value)
  (eg : ∀ args W, (callFunc g args).run Tryd.prog W = .ok (.enter g args) W) (hp : PredK Tryd.prog g lb k49 l0 p w) :
  Calls Tryd.prog 51 #[.slice A0 l0.length c0, .func (.func g) #[] lb] w fun e w' => e = .returned (.int .i64 (idxI p l0)) ∧ Below w.heap.size w w' := by
 have HR := Aside0.mk hr0
 have HP := Aside0.mk hp
 have hmx := hr0.2.1
 clear hr0 hp
 go_enter Tryd.func51, Tryd.ntmps51
 go_wp2
 go_loopg [5, 8] l0.length (fun gg _ s8 wr => ∃ kk : Nat, kk ≤ l0.length ∧ l0.length - kk ≤ gg ∧ s8 = .int .i64 kk ∧ Aside0 (Below w.heap.size w wr) ∧ Aside0 (∀ j : Nat, j < kk → p (rd_T49 l0 j) = false))
 case atStart => exact ⟨0, Nat.zero_le _, by omega, rfl, ⟨Below.refl _ w⟩, ⟨fun j hj => absurd hj (Nat.not_lt_zero _)⟩⟩
 case round =>
  obtain ⟨kk, hkk, hg, rfl, BW, AL⟩ := hrel
  by_cases hlt : kk < l0.length
  ·have p1 : (0 : Int) ≤ (kk : Int) := by omega
   have q1 : (kk : Int) < (l0.length : Int) := by omega
   obtain ⟨ad, ea, hx_0, hx_1⟩ := at_T49 HR.out (kk : Int) p1 q1
   cases ea
   replace hx_0 := (BW.out.cell (World.block_lt_of_cell? w _ hx_0)).trans hx_0
   replace hx_1 := (BW.out.cell (World.block_lt_of_cell? w _ hx_1)).trans hx_1
   have hmem : rd_T49 l0 (kk : Int) ∈ l0 := by
    unfold rd_T49
    rw [Int.toNat_natCast, getD_at _ _ hlt]
    exact List.getElem_mem hlt
   have hcall := HP.out wr (rd_T49 l0 (kk : Int)) [.string (rd_T49 l0 (kk : Int)).f0, .string (rd_T49 l0 (kk : Int)).f1] hmem BW.out (k49_mk _ _)
   clear hmem
   simp only [Int.toNat_natCast] at hx_0 hx_1
   generalize hy : rd_T49 l0 (kk : Int) = y at *
   have HY := Aside0.mk hy
   clear hy
   replace p1 := eq_true p1
   replace q1 := eq_true q1
   cases hq : p y with
   | true =>
    rw [hq] at hcall
    have HQ := Aside0.mk hq
    clear hq
    have HC := Aside0.mk hcall
    clear hcall
    go_wp2_with (go_at_fn g; refine HC.out.mono ?_; rintro e w' ⟨rfl, hb'⟩; have HB' := Aside0.mk hb'; clear hb')
    go_ret
    refine ⟨?_, HB'.out⟩
    rw [idxI_hit p l0 kk hlt (fun j hj => by have := AL.out j hj; unfold rd_T49 at this; rwa [Int.toNat_natCast, getD_at _ _ (by omega)] at this) (by have := HY.out; unfold rd_T49 at this; rw [Int.toNat_natCast, getD_at _ _ hlt] at this; rw [this]; exact HQ.out)]
    rfl
   | false =>
    rw [hq] at hcall
    have HQ := Aside0.mk hq
    clear hq
    have HC := Aside0.mk hcall
    clear hcall
    go_wp2_with (go_at_fn g; refine HC.out.mono ?_; rintro e w' ⟨rfl, hb'⟩; have HB' := Aside0.mk hb'; clear hb')
    go_roundg (l0.length - (kk + 1))
    case measure => omega
    case rel =>
     refine ⟨kk + 1, by omega, by omega, by go_num, HB', ⟨fun j hj => ?_⟩⟩
     by_cases e : j = kk
     ·subst e
      rw [HY.out]; exact HQ.out
     ·exact AL.out j (by omega)
  ·have q1 : ¬ (kk : Int) < (l0.length : Int) := by omega
   obtain rfl : kk = l0.length := by omega
   go_wp2
   go_ret
   refine ⟨?_, BW.out⟩
   rw [idxI_miss p l0 (fun j hj => by have := AL.out j hj; unfold rd_T49 at this; rwa [Int.toNat_natCast, getD_at _ _ hj] at this)]
   rfl

/-! ### dns_Fold: function 53 -/
noncomputable def dns_Fold.b (c : UInt8) : UInt8 := if 65 ≤ c.toNat ∧ c.toNat ≤ 90 then UInt8.ofNat (c.toNat + 32) else c
noncomputable def dns_Fold.f (a0 : ByteArray) : Option (ByteArray) := if a0.size ≤ 9223372036854775807 then some ⟨(a0.data.toList.map dns_Fold.b).toArray⟩ else none
/-- The octets as numbers, the first k of them folded. -/
noncomputable def dns_Fold.at_ (s : ByteArray) (k j : Nat) : Int := if j < k then ((dns_Fold.b (s.data.toList.getD j 0)).toNat : Int) else ((s.data.toList.getD j 0).toNat : Int)
theorem dns_Fold.bits_or (c : Int) (h0 : 65 ≤ c) (h1 : c ≤ 90) : Go.bits .or .u8 c 32 = c + 32 := by
 have h : ∀ n : Fin 26, Go.bits .or .u8 (65 + (n.val : Int)) 32 = 97 + (n.val : Int) := by decide
 have := h ⟨(c - 65).toNat, by omega⟩
 simp only [Int.toNat_of_nonneg (show 0 ≤ c - 65 by omega)] at this
 rw [show (65 : Int) + (c - 65) = c by omega, show (97 : Int) + (c - 65) = c + 32 by omega] at this
 exact this
theorem dns_Fold.in_ (c : UInt8) (h0 : 65 ≤ c.toNat) (h1 : c.toNat ≤ 90) : ((dns_Fold.b c).toNat : Int) = (c.toNat : Int) + 32 := by
 unfold dns_Fold.b
 rw [if_pos ⟨h0, h1⟩, UInt8.toNat_ofNat']
 omega
theorem dns_Fold.out_ (c : UInt8) (h : ¬ (65 ≤ c.toNat ∧ c.toNat ≤ 90)) : dns_Fold.b c = c := by
 unfold dns_Fold.b
 rw [if_neg h]
theorem dns_Fold.frozen_ (w : World) (e : TypeId) (s : ByteArray) (j : Nat) (hj : j < s.size) : (Lib.bytesWorld w e s).frozen? ⟨w.heap.size, j, none⟩ = false := by
 have h := Lib.bytesWorld_at_new w e s
 have hl : s.size ≤ (Lib.bytesCells w e s).size := by
  have hd : s.data.size = s.size := rfl
  simp [Lib.bytesCells] <;> omega
 simp [World.frozen?, h]
 try omega
theorem dns_Fold.below_ (w : World) (e : TypeId) (s : ByteArray) : Below w.heap.size w (Lib.bytesWorld w e s) :=
 ⟨rfl, rfl, rfl, by rw [Lib.bytesWorld_size]; omega, fun i hi => Lib.bytesWorld_at_old w e s i hi⟩
set_option maxHeartbeats 8000000 in
set_option maxRecDepth 100000 in
theorem dns_Fold.calls (a0 : ByteArray) (r : ByteArray) (w : World) (h : dns_Fold.f a0 = some r) :
  Calls Tryd.prog 53 #[.string a0] w fun e w' => e = .returned (.string r) ∧ Below w.heap.size w w' := by
 have hmx : a0.size ≤ 9223372036854775807 := by
  by_cases hx : a0.size ≤ 9223372036854775807
  ·exact hx
  ·rw [dns_Fold.f, if_neg hx] at h; cases h
 rw [dns_Fold.f, if_pos hmx] at h
 have H := Aside0.mk h
 clear h
 have hcv := fun (W : World) => Lib.run_convert_string_bytes (P := Tryd.prog) W 9 82 5 a0 Tryd.underlying9 Tryd.underlying82 Tryd.underlying5
 have hsz : a0.data.toList.length = a0.size := data_length a0
 have HSZ := Aside0.mk hsz
 clear hsz
 go_enter Tryd.func53, Tryd.ntmps53
 go_wp2
 clear hcv
 have hc0 := am_ (fun j (hj : j < a0.size) => Lib.bytesWorld_cell w 5 a0 j hj)
 have hf0 := am_ (fun j (hj : j < a0.size) => dns_Fold.frozen_ w 5 a0 j hj)
 have hb0 := am_ (dns_Fold.below_ w 5 a0)
 generalize Lib.bytesWorld w 5 a0 = W1 at hc0 hf0 hb0 ⊢
 generalize grownCap w a0.size 0 5 = cp
 go_loopw [10] (fun i wr => ∃ k : Nat, k ≤ a0.size ∧ i = .int .i64 k ∧ Aside0 (Below w.heap.size w wr) ∧ Aside0 (∀ j, j < a0.size → wr.cell? ⟨w.heap.size, j, none⟩ = some (.int .u8 (dns_Fold.at_ a0 k j))) ∧ Aside0 (∀ j, j < a0.size → wr.frozen? ⟨w.heap.size, j, none⟩ = false)) (fun i _ => a0.size - (intOf i).toNat)
 case atStart => exact ⟨0, Nat.zero_le _, rfl, hb0, ⟨fun j hj => by rw [hc0.out j hj]; unfold dns_Fold.at_; rw [if_neg (by omega)]⟩, hf0⟩
 case round =>
  clear hb0 hc0 hf0
  obtain ⟨k, hk, rfl, hb, hc, hf⟩ := hrel
  by_cases hlt : k < a0.size
  ·have hck := hc.out k hlt
   have hfk := hf.out k hlt
   have hwb := hb.out.size
   have hat : dns_Fold.at_ a0 k k = ((a0.data.toList.getD k 0).toNat : Int) := by unfold dns_Fold.at_; rw [if_neg (by omega)]
   rw [hat] at hck
   clear hat
   have hn := (a0.data.toList.getD k 0).toNat_lt
   have hst : ∀ j, j ≠ k → dns_Fold.at_ a0 (k + 1) j = dns_Fold.at_ a0 k j := by
    intro j hj
    unfold dns_Fold.at_
    by_cases h1 : j < k
    ·rw [if_pos h1, if_pos (by omega)]
    ·rw [if_neg h1, if_neg (by omega)]
   have HST := Aside0.mk hst
   have hsk : dns_Fold.at_ a0 (k + 1) k = ((dns_Fold.b (a0.data.toList.getD k 0)).toNat : Int) := by unfold dns_Fold.at_; rw [if_pos (by omega)]
   have HSK := Aside0.mk hsk
   clear hst hsk
   have hltz : (k : Int) < (a0.size : Int) := by omega
   have HIN := am_ (dns_Fold.in_ (a0.data.toList.getD k 0))
   have HOUT := am_ (dns_Fold.out_ (a0.data.toList.getD k 0))
   generalize a0.data.toList.getD k 0 = c at hck hn HSK HIN HOUT
   by_cases h1 : 65 ≤ c.toNat
   ·have b1 : decide (65 ≤ (c.toNat : Int)) = true := decide_eq_true (by omega)
    by_cases h2 : c.toNat ≤ 90
    ·have b2 : decide ((c.toNat : Int) ≤ 90) = true := decide_eq_true (by omega)
     have hor := dns_Fold.bits_or (c.toNat : Int) (by omega) (by omega)
     rw [HIN.out h1 h2] at HSK
     clear HIN HOUT h1 h2
     go_wp2
     go_roundw
     case rel =>
      refine ⟨k + 1, by omega, by go_num, ⟨hb.out.setCell (p := ⟨w.heap.size, k, none⟩) (Nat.le_refl _) _⟩, ⟨fun j hj => ?_⟩, ⟨fun j hj => by rw [World.frozen?_setCell]; exact hf.out j hj⟩⟩
      by_cases hjk : j = k
      ·subst hjk
       rw [HSK.out]
       exact World.cell?_setCell_same _ _ _ (hc.out j hj)
      ·rw [HST.out j hjk, World.cell?_setCell_other _ _ _ _ (by intro h; injection h with _ h _; exact hjk h.symm)]
       exact hc.out j hj
     case measure => simp [intOf]; omega
    ·have b2 : decide ((c.toNat : Int) ≤ 90) = false := decide_eq_false (by omega)
     rw [HOUT.out (by omega)] at HSK
     clear HIN HOUT h1 h2
     go_wp2
     go_roundw
     case rel =>
      refine ⟨k + 1, by omega, by go_num, hb, ⟨fun j hj => ?_⟩, hf⟩
      by_cases hjk : j = k
      ·subst hjk
       rw [HSK.out]
       exact hck
      ·rw [HST.out j hjk]; exact hc.out j hj
     case measure => simp [intOf]; omega
   ·have b1 : decide (65 ≤ (c.toNat : Int)) = false := decide_eq_false (by omega)
    rw [HOUT.out (by omega)] at HSK
    clear HIN HOUT h1
    go_wp2
    go_roundw
    case rel =>
     refine ⟨k + 1, by omega, by go_num, hb, ⟨fun j hj => ?_⟩, hf⟩
     by_cases hjk : j = k
     ·subst hjk
      rw [HSK.out]
      exact hck
     ·rw [HST.out j hjk]; exact hc.out j hj
    case measure => simp [intOf]; omega
  ·have hge : decide ((k : Int) < (a0.size : Int)) = false := decide_eq_false (by omega)
   obtain rfl : k = a0.size := by omega
   have hcv := fun dst hd => run_convert_bytes_arg (P := Tryd.prog) wr 82 5 Tryd.underlying82 Tryd.underlying5 w.heap.size 0 a0.size cp (a0.data.toList.map fun b => ((dns_Fold.b b).toNat : Int)) (by rw [List.length_map]; exact HSZ.out) (fun i hi => by
    rw [Nat.zero_add, hc.out i hi]
    unfold dns_Fold.at_
    rw [if_pos hi]
    have hl : i < a0.data.toList.length := by rw [HSZ.out]; exact hi
    simp [List.getD, List.getElem?_eq_getElem hl]) dst hd
   have hcv2 := hcv 9 Tryd.underlying9
   clear hcv
   have hr : r = strOfNums (a0.data.toList.map fun b => ((dns_Fold.b b).toNat : Int)) := by
    have h := Option.some.inj H.out
    rw [← h]
    unfold strOfNums
    congr 2
    rw [List.map_map]
    refine List.map_congr_left fun b _ => ?_
    simp
   have HR := Aside0.mk hr
   clear hr H
   generalize strOfNums (a0.data.toList.map fun b => ((dns_Fold.b b).toNat : Int)) = rr at hcv2 HR
   obtain rfl := HR.out
   clear HR
   go_wp2
   go_ret
   exact ⟨rfl, hb.out⟩

/-! ### pairs_Same: function 30 -/
noncomputable def pairs_Same.f (a0 : ByteArray) (a1 : ByteArray) : Option (Bool) := (dns_Fold.f a0).bind fun t151 => ((dns_Fold.f a1).bind fun t152 => (some (t151.toList == t152.toList)))
set_option maxHeartbeats 8000000 in
set_option maxRecDepth 100000 in
theorem pairs_Same.calls (a0 : ByteArray) (a1 : ByteArray) (r : Bool) (w : World) (h : pairs_Same.f a0 a1 = some r) :
  Calls Tryd.prog 30 #[.string a0, .string a1] w fun e w' => e = .returned (.bool r) ∧ Below w.heap.size w w' := by
 have HB := am_ (Below.refl w.heap.size w)
 have H : ((dns_Fold.f a0).bind fun t151 => ((dns_Fold.f a1).bind fun t152 => (some (t151.toList == t152.toList)))) = some r := h
 clear h
 replace H := Option.bind_eq_some_iff.mp H
 obtain ⟨t151, A30, H⟩ := H
 replace H : ((dns_Fold.f a1).bind fun t152 => (some (t151.toList == t152.toList))) = some r := H
 have A3 := Aside0.mk A30
 clear A30
 replace H := Option.bind_eq_some_iff.mp H
 obtain ⟨t152, A40, H⟩ := H
 replace H : (some (t151.toList == t152.toList)) = some r := H
 have A4 := Aside0.mk A40
 clear A40
 obtain rfl := Option.some.inj H
 go_enter Tryd.func30, Tryd.ntmps30
 go_wp2_with (first | ((with_reducible refine gate_callee (f := 53) rfl ?_); refine goesL_ (some 6) rfl rfl Tryd.func53 kr_ rfl #[.string a0] rfl rl_ ?_; (with_reducible refine (dns_Fold.calls a0 t151 _ A3.out).mono ?_); rintro e w5 ⟨rfl, hb⟩; refine ⟨_, rfl, ?_⟩; have n0_ := am_ (below_step (bel_ HB.out) hb); clear HB; have HB := n0_; clear n0_; (try clear hb); (try clear hb2); (try clear hk); (try clear hi)) | ((with_reducible refine gate_callee (f := 53) rfl ?_); refine goesL_ (some 8) rfl rfl Tryd.func53 kr_ rfl #[.string a1] rfl rl_ ?_; (with_reducible refine (dns_Fold.calls a1 t152 _ A4.out).mono ?_); rintro e w6 ⟨rfl, hb⟩; refine ⟨_, rfl, ?_⟩; have n0_ := am_ (below_step (bel_ HB.out) hb); clear HB; have HB := n0_; clear n0_; (try clear hb); (try clear hb2); (try clear hk); (try clear hi)))
 go_ret
 exact ⟨fi_, bel_ HB.out⟩

/-! ### query_May: function 31 -/
noncomputable def query_May.l0 : Nat → List (S49) → List (S49) → Int → Int → Option (Bool)
 | 0, _, _, _, _ => none
 | k + 1, x0, x5, x6, x7 => if x7 < x6 then (if 0 ≤ x7 then (if x7 < (x5.length : Int) then (if ((rd_T49 x5 x7).f0).toList = ([] : List UInt8) then (some false) else (if (((rd_T49 x5 x7).f0).size : Int) > 40 then (some false) else (if (((rd_T49 x5 x7).f1).size : Int) > 40 then (some false) else (query_May.l0 k x0 x5 x6 (wrap64 (x7 + 1)))))) else (none)) else (none)) else (some (decide ((x0.length : Int) ≤ 20)))
noncomputable def query_May.f (k : Nat) (l0 : List (S49)) : Option (Bool) := query_May.l0 k l0 l0 (l0.length : Int) 0
theorem query_May.mono_l : ∀ k, (∀ y0 y1 y2 y3, LeO (query_May.l0 k y0 y1 y2 y3) (query_May.l0 (k + 1) y0 y1 y2 y3))
 | 0 => fun _ _ _ _ r h => by simp [query_May.l0] at h
 | k + 1 => by
  have ih0 := query_May.mono_l k
  ·intro y0 y1 y2 y3
   unfold query_May.l0
   repeat' first
   | (with_reducible exact ih0 _ _ _ _)
   | (with_reducible exact LeO.refl _)
   | (with_reducible exact LeO.none _)
   | (with_reducible refine LeO.ite ?_ ?_)
   | (with_reducible refine LeO.bind ?_ (fun _ => ?_))
   | exact ih0 _ _ _ _
   | exact LeO.none _
   | refine LeO.ite ?_ ?_
   | refine LeO.bind ?_ (fun _ => ?_)
theorem query_May.mono : ∀ a0 k, LeO (query_May.f k a0) (query_May.f (k + 1) a0) := by
 intro a0 k
 have ih0 := query_May.mono_l k
 unfold query_May.f
 repeat' first
   | (with_reducible exact ih0 _ _ _ _)
   | (with_reducible exact LeO.refl _)
   | (with_reducible exact LeO.none _)
   | (with_reducible refine LeO.ite ?_ ?_)
   | (with_reducible refine LeO.bind ?_ (fun _ => ?_))
   | exact ih0 _ _ _ _
   | exact LeO.none _
   | refine LeO.ite ?_ ?_
   | refine LeO.bind ?_ (fun _ => ?_)
set_option maxHeartbeats 8000000 in
set_option maxRecDepth 100000 in
theorem query_May.calls (k : Nat) (A0 : Option Addr) (c0 : Nat) (l0 : List (S49)) (r : Bool) (w : World) (hr0 : Kd.C k49 w A0 l0.length l0) (hc0 : l0.length ≤ c0) (h : query_May.f k l0 = some r) :
  Calls Tryd.prog 31 #[.slice A0 l0.length c0] w fun e w' => e = .returned (.bool r) ∧ Below w.heap.size w w' := by
 have hu49 := Tryd.underlying49
 have HR0 := Aside0.mk hr0
 have HC0 := Aside0.mk hc0
 clear hr0 hc0
 have HB := am_ (Below.refl w.heap.size w)
 have H : (query_May.l0 k l0 l0 (l0.length : Int) 0) = some r := h
 clear h
 have H' := Aside0.mk H
 clear H
 go_enter Tryd.func31, Tryd.ntmps31
 go_wp2
 go_loopg [7] k (fun kq v7 w' => ∃ (x7_1 : Int), v7 = .int .i64 x7_1 ∧ Aside0 (query_May.l0 kq l0 l0 (l0.length : Int) x7_1 = some r) ∧ Aside0 (kq ≤ k) ∧ Aside0 (Below w.heap.size w w'))
 case atStart => exact ⟨(0), sd_, H', ⟨Nat.le_refl _⟩, ⟨bel_ HB.out⟩⟩
 case round =>
  clear H'
  obtain ⟨x7_1, rfl, HA, HK1, HB⟩ := hrel
  cases gk with
  | zero => exact absurd HA.out (by simp [query_May.l0])
  | succ k1 =>
   have H := HA.out
   clear HA
   simp only [query_May.l0] at H
   by_cases c2 : x7_1 < (l0.length : Int)
   ·rw [if_pos c2] at H
    have c2b0 : decide (x7_1 < (l0.length : Int)) = true := decide_eq_true c2
    clear c2
    by_cases c3 : 0 ≤ x7_1
    ·rw [if_pos c3] at H
     have c3b0 : decide (0 ≤ x7_1) = true := decide_eq_true c3
     clear c3
     by_cases c4 : x7_1 < (l0.length : Int)
     ·rw [if_pos c4] at H
      have c4b0 : decide (x7_1 < (l0.length : Int)) = true := decide_eq_true c4
      clear c4
      by_cases c5 : ((rd_T49 l0 x7_1).f0).toList = ([] : List UInt8)
      ·rw [if_pos c5] at H
       have c5b0 : (((rd_T49 l0 x7_1).f0).toList == ([] : List UInt8)) = true := beq_iff_eq.mpr c5
       have c5b1 : (((rd_T49 l0 x7_1).f0).toList != ([] : List UInt8)) = false := bne_eq_false_iff_eq.mpr c5
       clear c5
       obtain rfl := Option.some.inj H
       have p153 : 0 ≤ (x7_1 : Int) := of_decide_eq_true as_
       have q153 : x7_1 < (l0.length : Int) := of_decide_eq_true as_
       obtain ⟨ad153, e153, hx153_0, hx153_1⟩ := at_T49 HR0.out x7_1 p153 q153
       cases e153
       replace hx153_0 := (HB.out.cell (World.block_lt_of_cell? w _ hx153_0)).trans hx153_0
       replace hx153_1 := (HB.out.cell (World.block_lt_of_cell? w _ hx153_1)).trans hx153_1
       replace p153 := eq_true p153
       replace q153 := eq_true q153
       go_wp2_with (first | ((with_reducible refine gate_dst (N := 4) rfl ?_); (try (refine gate_guard (by rfl) ?_; dsimp only)); refine box_event ?hg (N := 4) ?hd (cs := #[.string (⟨#[]⟩ : ByteArray), .string (⟨#[]⟩ : ByteArray)]) (t := 49) ?hr ?_; (case hd => rfl); (case hg => rfl); (case hr => first | (go_simp; done) | (go_simp; rfl)); intro gb154 hg w6 hbox hb; have n0_ := am_ (below_step (bel_ HB.out) hb); have n1_ := am_ (hbox); have n2_ := am_ ((by rw [hg]; exact (below_size (bel_ HB.out)) : w.heap.size ≤ gb154)); have n3_ := am_ ((by rw [hg]; exact (below_size (bel_ HB.out)) : w.heap.size ≤ gb154)); clear HB; have HB := n0_; have BK154 := n1_; have GW154 := n2_; have GE154 := n3_; clear n0_ n1_ n2_ n3_ hb hbox hg; have hcz7_0 : w6.cell? ⟨gb154, 0, none⟩ = some (.string (⟨#[]⟩ : ByteArray)) := (blk_cell BK154.out 0).trans rfl; have hcz7_1 : w6.cell? ⟨gb154, 1, none⟩ = some (.string (⟨#[]⟩ : ByteArray)) := (blk_cell BK154.out 1).trans rfl; have hfz7_0 := blk_frozen BK154.out 0; have hfz7_1 := blk_frozen BK154.out 1))
       go_ret
       exact ⟨fi_, bel_ HB.out⟩
      ·rw [if_neg c5] at H
       have c5b0 : (((rd_T49 l0 x7_1).f0).toList == ([] : List UInt8)) = false := beq_eq_false_iff_ne.mpr c5
       have c5b1 : (((rd_T49 l0 x7_1).f0).toList != ([] : List UInt8)) = true := bne_iff_ne.mpr c5
       by_cases c8 : (((rd_T49 l0 x7_1).f0).size : Int) > 40
       ·rw [if_pos c8] at H
        have c8b0 : decide (40 < (((rd_T49 l0 x7_1).f0).size : Int)) = true := decide_eq_true c8
        have c8b1 : decide (40 < ((rd_T49 l0 x7_1).f0).size) = true := decide_eq_true (by omega)
        clear c8
        obtain rfl := Option.some.inj H
        have p153 : 0 ≤ (x7_1 : Int) := of_decide_eq_true as_
        have q153 : x7_1 < (l0.length : Int) := of_decide_eq_true as_
        obtain ⟨ad153, e153, hx153_0, hx153_1⟩ := at_T49 HR0.out x7_1 p153 q153
        cases e153
        replace hx153_0 := (HB.out.cell (World.block_lt_of_cell? w _ hx153_0)).trans hx153_0
        replace hx153_1 := (HB.out.cell (World.block_lt_of_cell? w _ hx153_1)).trans hx153_1
        replace p153 := eq_true p153
        replace q153 := eq_true q153
        go_wp2_with (first | ((with_reducible refine gate_dst (N := 4) rfl ?_); (try (refine gate_guard (by rfl) ?_; dsimp only)); refine box_event ?hg (N := 4) ?hd (cs := #[.string (⟨#[]⟩ : ByteArray), .string (⟨#[]⟩ : ByteArray)]) (t := 49) ?hr ?_; (case hd => rfl); (case hg => rfl); (case hr => first | (go_simp; done) | (go_simp; rfl)); intro gb154 hg w9 hbox hb; have n0_ := am_ (below_step (bel_ HB.out) hb); have n1_ := am_ (hbox); have n2_ := am_ ((by rw [hg]; exact (below_size (bel_ HB.out)) : w.heap.size ≤ gb154)); have n3_ := am_ ((by rw [hg]; exact (below_size (bel_ HB.out)) : w.heap.size ≤ gb154)); clear HB; have HB := n0_; have BK154 := n1_; have GW154 := n2_; have GE154 := n3_; clear n0_ n1_ n2_ n3_ hb hbox hg; have hcz10_0 : w9.cell? ⟨gb154, 0, none⟩ = some (.string (⟨#[]⟩ : ByteArray)) := (blk_cell BK154.out 0).trans rfl; have hcz10_1 : w9.cell? ⟨gb154, 1, none⟩ = some (.string (⟨#[]⟩ : ByteArray)) := (blk_cell BK154.out 1).trans rfl; have hfz10_0 := blk_frozen BK154.out 0; have hfz10_1 := blk_frozen BK154.out 1))
        go_ret
        exact ⟨fi_, bel_ HB.out⟩
       ·rw [if_neg c8] at H
        have c8b0 : decide (40 < (((rd_T49 l0 x7_1).f0).size : Int)) = false := decide_eq_false c8
        have c8b1 : decide (40 < ((rd_T49 l0 x7_1).f0).size) = false := decide_eq_false (by omega)
        clear c8
        by_cases c11 : (((rd_T49 l0 x7_1).f1).size : Int) > 40
        ·rw [if_pos c11] at H
         have c11b0 : decide (40 < (((rd_T49 l0 x7_1).f1).size : Int)) = true := decide_eq_true c11
         have c11b1 : decide (40 < ((rd_T49 l0 x7_1).f1).size) = true := decide_eq_true (by omega)
         clear c11
         obtain rfl := Option.some.inj H
         have p153 : 0 ≤ (x7_1 : Int) := of_decide_eq_true as_
         have q153 : x7_1 < (l0.length : Int) := of_decide_eq_true as_
         obtain ⟨ad153, e153, hx153_0, hx153_1⟩ := at_T49 HR0.out x7_1 p153 q153
         cases e153
         replace hx153_0 := (HB.out.cell (World.block_lt_of_cell? w _ hx153_0)).trans hx153_0
         replace hx153_1 := (HB.out.cell (World.block_lt_of_cell? w _ hx153_1)).trans hx153_1
         replace p153 := eq_true p153
         replace q153 := eq_true q153
         go_wp2_with (first | ((with_reducible refine gate_dst (N := 4) rfl ?_); (try (refine gate_guard (by rfl) ?_; dsimp only)); refine box_event ?hg (N := 4) ?hd (cs := #[.string (⟨#[]⟩ : ByteArray), .string (⟨#[]⟩ : ByteArray)]) (t := 49) ?hr ?_; (case hd => rfl); (case hg => rfl); (case hr => first | (go_simp; done) | (go_simp; rfl)); intro gb154 hg w12 hbox hb; have n0_ := am_ (below_step (bel_ HB.out) hb); have n1_ := am_ (hbox); have n2_ := am_ ((by rw [hg]; exact (below_size (bel_ HB.out)) : w.heap.size ≤ gb154)); have n3_ := am_ ((by rw [hg]; exact (below_size (bel_ HB.out)) : w.heap.size ≤ gb154)); clear HB; have HB := n0_; have BK154 := n1_; have GW154 := n2_; have GE154 := n3_; clear n0_ n1_ n2_ n3_ hb hbox hg; have hcz13_0 : w12.cell? ⟨gb154, 0, none⟩ = some (.string (⟨#[]⟩ : ByteArray)) := (blk_cell BK154.out 0).trans rfl; have hcz13_1 : w12.cell? ⟨gb154, 1, none⟩ = some (.string (⟨#[]⟩ : ByteArray)) := (blk_cell BK154.out 1).trans rfl; have hfz13_0 := blk_frozen BK154.out 0; have hfz13_1 := blk_frozen BK154.out 1))
         go_ret
         exact ⟨fi_, bel_ HB.out⟩
        ·rw [if_neg c11] at H
         have c11b0 : decide (40 < (((rd_T49 l0 x7_1).f1).size : Int)) = false := decide_eq_false c11
         have c11b1 : decide (40 < ((rd_T49 l0 x7_1).f1).size) = false := decide_eq_false (by omega)
         clear c11
         have H' := Aside0.mk H
         clear H
         have p153 : 0 ≤ (x7_1 : Int) := of_decide_eq_true as_
         have q153 : x7_1 < (l0.length : Int) := of_decide_eq_true as_
         obtain ⟨ad153, e153, hx153_0, hx153_1⟩ := at_T49 HR0.out x7_1 p153 q153
         cases e153
         replace hx153_0 := (HB.out.cell (World.block_lt_of_cell? w _ hx153_0)).trans hx153_0
         replace hx153_1 := (HB.out.cell (World.block_lt_of_cell? w _ hx153_1)).trans hx153_1
         replace p153 := eq_true p153
         replace q153 := eq_true q153
         go_wp2_with (first | ((with_reducible refine gate_dst (N := 4) rfl ?_); (try (refine gate_guard (by rfl) ?_; dsimp only)); refine box_event ?hg (N := 4) ?hd (cs := #[.string (⟨#[]⟩ : ByteArray), .string (⟨#[]⟩ : ByteArray)]) (t := 49) ?hr ?_; (case hd => rfl); (case hg => rfl); (case hr => first | (go_simp; done) | (go_simp; rfl)); intro gb154 hg w14 hbox hb; have n0_ := am_ (below_step (bel_ HB.out) hb); have n1_ := am_ (hbox); have n2_ := am_ ((by rw [hg]; exact (below_size (bel_ HB.out)) : w.heap.size ≤ gb154)); have n3_ := am_ ((by rw [hg]; exact (below_size (bel_ HB.out)) : w.heap.size ≤ gb154)); clear HB; have HB := n0_; have BK154 := n1_; have GW154 := n2_; have GE154 := n3_; clear n0_ n1_ n2_ n3_ hb hbox hg; have hcz15_0 : w14.cell? ⟨gb154, 0, none⟩ = some (.string (⟨#[]⟩ : ByteArray)) := (blk_cell BK154.out 0).trans rfl; have hcz15_1 : w14.cell? ⟨gb154, 1, none⟩ = some (.string (⟨#[]⟩ : ByteArray)) := (blk_cell BK154.out 1).trans rfl; have hfz15_0 := blk_frozen BK154.out 0; have hfz15_1 := blk_frozen BK154.out 1))
         go_roundg k1
         case measure => have := HK1.out; omega
         case rel => exact ⟨(wrap64 (x7_1 + 1)), sd_, H', ⟨by have := HK1.out; omega⟩, ⟨bel_ HB.out⟩⟩
     ·rw [if_neg c4] at H
      exact absurd H (by simp)
    ·rw [if_neg c3] at H
     exact absurd H (by simp)
   ·rw [if_neg c2] at H
    have c2b0 : decide (x7_1 < (l0.length : Int)) = false := decide_eq_false c2
    clear c2
    obtain rfl := Option.some.inj H
    go_wp2
    go_ret
    exact ⟨fi_, bel_ HB.out⟩

end Go.Proofs.YtompldnifiieaaaDoor.P
