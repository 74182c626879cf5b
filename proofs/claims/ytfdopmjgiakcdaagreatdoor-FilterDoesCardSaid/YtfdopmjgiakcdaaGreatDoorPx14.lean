-- written by wip/tool/hprint.py of this repo: the kit's print, with contracts by hand joined; Lean checks it.
import Derived.Test.YtfdopmjgiakcdaaGreatDoorPx0
namespace Go.Proofs.YtfdopmjgiakcdaaGreatDoor.P
open Go.RowKit Go.Proofs.YtfdopmjgiakcdaaGreatDoorW.PrintWords Go.Proofs.YtfdopmjgiakcdaaGreatDoorW.PrintLast Go.Proofs.YtfdopmjgiakcdaaGreatDoorW.PrintMore
attribute [local go_sem] max2_int min2_int max_two min_two max_three min_three max_four min_four   -- for this text's walks alone
set_option linter.unusedVariables false
set_option linter.unusedSimpArgs false

/-! ### tollref05_Token: function 31 -/
mutual
def tollref05_Token.l0 : Nat → ByteArray → Int → Option (Bool)
 | 0, _, _ => none
 | k + 1, x0, x3 => if x3 < (x0.size : Int) then (if 0 ≤ x3 then (if 48 ≤ (bt x0 x3) then (if (bt x0 x3) ≤ 57 then (tollref05_Token.j1 k x0 x3 (bt x0 x3) true) else (if 65 ≤ (bt x0 x3) then (if (bt x0 x3) ≤ 90 then (tollref05_Token.j1 k x0 x3 (bt x0 x3) true) else (if 97 ≤ (bt x0 x3) then (tollref05_Token.j1 k x0 x3 (bt x0 x3) (decide ((bt x0 x3) ≤ 122))) else (tollref05_Token.j1 k x0 x3 (bt x0 x3) false))) else (if 97 ≤ (bt x0 x3) then (tollref05_Token.j1 k x0 x3 (bt x0 x3) (decide ((bt x0 x3) ≤ 122))) else (tollref05_Token.j1 k x0 x3 (bt x0 x3) false)))) else (if 65 ≤ (bt x0 x3) then (if (bt x0 x3) ≤ 90 then (tollref05_Token.j1 k x0 x3 (bt x0 x3) true) else (if 97 ≤ (bt x0 x3) then (tollref05_Token.j1 k x0 x3 (bt x0 x3) (decide ((bt x0 x3) ≤ 122))) else (tollref05_Token.j1 k x0 x3 (bt x0 x3) false))) else (if 97 ≤ (bt x0 x3) then (tollref05_Token.j1 k x0 x3 (bt x0 x3) (decide ((bt x0 x3) ≤ 122))) else (tollref05_Token.j1 k x0 x3 (bt x0 x3) false)))) else (none)) else (if 1 ≤ (x0.size : Int) then (some (decide ((x0.size : Int) ≤ 40))) else (some false))
def tollref05_Token.j1 : Nat → ByteArray → Int → Int → Bool → Option (Bool)
 | 0, _, _, _, _ => none
 | k + 1, x0, x3, x4, x5 => if x4 = 33 then (tollref05_Token.j2 k x0 x3 x5 (x4 == 33)) else (if x4 = 35 then (tollref05_Token.j2 k x0 x3 x5 (x4 == 35)) else (if x4 = 36 then (tollref05_Token.j2 k x0 x3 x5 (x4 == 36)) else (if x4 = 37 then (tollref05_Token.j2 k x0 x3 x5 (x4 == 37)) else (if x4 = 38 then (tollref05_Token.j2 k x0 x3 x5 (x4 == 38)) else (if x4 = 39 then (tollref05_Token.j2 k x0 x3 x5 (x4 == 39)) else (if x4 = 42 then (tollref05_Token.j2 k x0 x3 x5 (x4 == 42)) else (if x4 = 43 then (tollref05_Token.j2 k x0 x3 x5 (x4 == 43)) else (if x4 = 45 then (tollref05_Token.j2 k x0 x3 x5 (x4 == 45)) else (if x4 = 46 then (tollref05_Token.j2 k x0 x3 x5 (x4 == 46)) else (if x4 = 94 then (tollref05_Token.j2 k x0 x3 x5 (x4 == 94)) else (if x4 = 95 then (tollref05_Token.j2 k x0 x3 x5 (x4 == 95)) else (if x4 = 96 then (tollref05_Token.j2 k x0 x3 x5 (x4 == 96)) else (if x4 = 124 then (tollref05_Token.j2 k x0 x3 x5 (x4 == 124)) else (tollref05_Token.j2 k x0 x3 x5 (x4 == 126)))))))))))))))
def tollref05_Token.j2 : Nat → ByteArray → Int → Bool → Bool → Option (Bool)
 | 0, _, _, _, _ => none
 | k + 1, x0, x3, x5, x38 => if x38 = true then (tollref05_Token.l0 k x0 (wrap64 (x3 + 1))) else (if x5 = true then (tollref05_Token.l0 k x0 (wrap64 (x3 + 1))) else (some false))
end
def tollref05_Token.f (k : Nat) (a0 : ByteArray) : Option (Bool) := tollref05_Token.l0 k a0 0
theorem tollref05_Token.mono_l : ∀ k, (∀ y0 y1, LeO (tollref05_Token.l0 k y0 y1) (tollref05_Token.l0 (k + 1) y0 y1)) ∧ (∀ y0 y1 y2 y3, LeO (tollref05_Token.j1 k y0 y1 y2 y3) (tollref05_Token.j1 (k + 1) y0 y1 y2 y3)) ∧ (∀ y0 y1 y2 y3, LeO (tollref05_Token.j2 k y0 y1 y2 y3) (tollref05_Token.j2 (k + 1) y0 y1 y2 y3))
 | 0 => ⟨fun _ _ r h => by simp [tollref05_Token.l0] at h, fun _ _ _ _ r h => by simp [tollref05_Token.j1] at h, fun _ _ _ _ r h => by simp [tollref05_Token.j2] at h⟩
 | k + 1 => by
  obtain ⟨ih0, ih1, ih2⟩ := tollref05_Token.mono_l k
  refine ⟨?_, ?_, ?_⟩
  ·intro y0 y1
   unfold tollref05_Token.l0
   repeat' with_reducible first | apply ih0 | apply ih1 | apply ih2 | apply LeO.refl | apply LeO.none | apply LeO.ite | refine LeO.bind ?_ fun _ => ?_
  ·intro y0 y1 y2 y3
   unfold tollref05_Token.j1
   repeat' with_reducible first | apply ih0 | apply ih1 | apply ih2 | apply LeO.refl | apply LeO.none | apply LeO.ite | refine LeO.bind ?_ fun _ => ?_
  ·intro y0 y1 y2 y3
   unfold tollref05_Token.j2
   repeat' with_reducible first | apply ih0 | apply ih1 | apply ih2 | apply LeO.refl | apply LeO.none | apply LeO.ite | refine LeO.bind ?_ fun _ => ?_
theorem tollref05_Token.mono : ∀ a0 k, LeO (tollref05_Token.f k a0) (tollref05_Token.f (k + 1) a0) := by
 intro a0 k
 obtain ⟨ih0, ih1, ih2⟩ := tollref05_Token.mono_l k
 unfold tollref05_Token.f
 repeat' with_reducible first | apply ih0 | apply ih1 | apply ih2 | apply LeO.refl | apply LeO.none | apply LeO.ite | refine LeO.bind ?_ fun _ => ?_
set_option maxHeartbeats 8000000 in
set_option maxRecDepth 100000 in
theorem tollref05_Token.calls (k : Nat) (a0 : ByteArray) (r : Bool) (w : World) (h : tollref05_Token.f k a0 = some r) :
  Calls Tryz.prog 31 #[.string a0] w fun e w' => e = .returned (.bool r) ∧ Drawn0 w w' := by
 have H : (tollref05_Token.l0 k a0 0) = some r := h;clear h;have H' := Aside0.mk H;clear H;go_enter Tryz.func31, Tryz.ntmps31;go_wp2;go_loopg [3] k (fun kq v3 w' => ∃ (pa : Int), v3 = .int .i64 pa ∧ Aside0 (tollref05_Token.l0 kq a0 pa = some r) ∧ Aside0 (kq ≤ k) ∧ Drawn0 w w')
 case atStart => exact ⟨(0), sd_, H', ⟨Nat.le_refl _⟩, dr_⟩
 case round =>
  clear H';obtain ⟨pa, rfl, HA, HK1, ⟨m1, rfl⟩⟩ := hrel;cases gk with
  | zero => exact absurd HA.out (by simp [tollref05_Token.l0])
  | succ k1 =>
   have H := HA.out;clear HA;simp only [tollref05_Token.l0] at H;by_cases c2 : pa < (a0.size : Int)
   ·rw [if_pos c2] at H
    have pf := decide_eq_true c2;clear c2;by_cases c3 : 0 ≤ pa
    ·rw [if_pos c3] at H
     have ph := decide_eq_true c3;clear c3;have HC5 := Aside0.mk H;clear H;have p4 : 0 ≤ (pa : Int) := of_decide_eq_true as_;have q4 : pa < (a0.size : Int) := of_decide_eq_true as_;have hx4 := bt_at a0 pa;replace p4 := eq_true p4;replace q4 := eq_true q4;go_upto_region 5 with (fail)
     go_cut [5] (fun v5 wc => ∃ (kq : Nat) (pb : Bool), v5 = .bool pb ∧ Aside0 (tollref05_Token.j1 kq a0 pa (bt a0 pa) pb = some r) ∧ Aside0 (kq ≤ k1) ∧ Drawn0 w wc)
     case first =>
      have H := HC5.out;clear HC5;by_cases c6 : 48 ≤ (bt a0 pa)
      ·rw [if_pos c6] at H
       have pc := decide_eq_true c6;clear c6;(first | rw [pc] | rw [pi] | rw [pj] | (simp only [i64_w, i32_w]; rw [pc]) | skip);by_cases c7 : (bt a0 pa) ≤ 57
       ·rw [if_pos c7] at H
        have pk := decide_eq_true c7;clear c7;have H' := Aside0.mk H;clear H;go_wp2;go_meet
        case rel => exact ⟨_, (true), sd_, H', ⟨le1_ HK1.out⟩, dr_⟩
       ·rw [if_neg c7] at H
        have pk := decide_eq_false c7;clear c7;by_cases c8 : 65 ≤ (bt a0 pa)
        ·rw [if_pos c8] at H
         have pl := decide_eq_true c8;clear c8;by_cases c9 : (bt a0 pa) ≤ 90
         ·rw [if_pos c9] at H
          have pm := decide_eq_true c9;clear c9;have H' := Aside0.mk H;clear H;go_wp2;go_meet
          case rel => exact ⟨_, (true), sd_, H', ⟨le1_ HK1.out⟩, dr_⟩
         ·rw [if_neg c9] at H
          have pm := decide_eq_false c9;clear c9;by_cases c10 : 97 ≤ (bt a0 pa)
          ·rw [if_pos c10] at H
           have pn := decide_eq_true c10;clear c10;have H' := Aside0.mk H;clear H;go_wp2;go_meet
           case rel => exact ⟨_, (decide ((bt a0 pa) ≤ 122)), sd_, H', ⟨le1_ HK1.out⟩, dr_⟩
          ·rw [if_neg c10] at H
           have pn := decide_eq_false c10;clear c10;have H' := Aside0.mk H;clear H;go_wp2;go_meet
           case rel => exact ⟨_, (false), sd_, H', ⟨le1_ HK1.out⟩, dr_⟩
        ·rw [if_neg c8] at H
         have pl := decide_eq_false c8;clear c8;by_cases c11 : 97 ≤ (bt a0 pa)
         ·rw [if_pos c11] at H
          have po := decide_eq_true c11;clear c11;have H' := Aside0.mk H;clear H;go_wp2;go_meet
          case rel => exact ⟨_, (decide ((bt a0 pa) ≤ 122)), sd_, H', ⟨le1_ HK1.out⟩, dr_⟩
         ·rw [if_neg c11] at H
          have po := decide_eq_false c11;clear c11;have H' := Aside0.mk H;clear H;go_wp2;go_meet
          case rel => exact ⟨_, (false), sd_, H', ⟨le1_ HK1.out⟩, dr_⟩
      ·rw [if_neg c6] at H
       have pc := decide_eq_false c6;clear c6;(first | rw [pc] | rw [pi] | rw [pj] | (simp only [i64_w, i32_w]; rw [pc]) | skip);by_cases c12 : 65 ≤ (bt a0 pa)
       ·rw [if_pos c12] at H
        have pp := decide_eq_true c12;clear c12;by_cases c13 : (bt a0 pa) ≤ 90
        ·rw [if_pos c13] at H
         have pq := decide_eq_true c13;clear c13;have H' := Aside0.mk H;clear H;go_wp2;go_meet
         case rel => exact ⟨_, (true), sd_, H', ⟨le1_ HK1.out⟩, dr_⟩
        ·rw [if_neg c13] at H
         have pq := decide_eq_false c13;clear c13;by_cases c14 : 97 ≤ (bt a0 pa)
         ·rw [if_pos c14] at H
          have pr := decide_eq_true c14;clear c14;have H' := Aside0.mk H;clear H;go_wp2;go_meet
          case rel => exact ⟨_, (decide ((bt a0 pa) ≤ 122)), sd_, H', ⟨le1_ HK1.out⟩, dr_⟩
         ·rw [if_neg c14] at H
          have pr := decide_eq_false c14;clear c14;have H' := Aside0.mk H;clear H;go_wp2;go_meet
          case rel => exact ⟨_, (false), sd_, H', ⟨le1_ HK1.out⟩, dr_⟩
       ·rw [if_neg c12] at H
        have pp := decide_eq_false c12;clear c12;by_cases c15 : 97 ≤ (bt a0 pa)
        ·rw [if_pos c15] at H
         have ps := decide_eq_true c15;clear c15;have H' := Aside0.mk H;clear H;go_wp2;go_meet
         case rel => exact ⟨_, (decide ((bt a0 pa) ≤ 122)), sd_, H', ⟨le1_ HK1.out⟩, dr_⟩
        ·rw [if_neg c15] at H
         have ps := decide_eq_false c15;clear c15;have H' := Aside0.mk H;clear H;go_wp2;go_meet
         case rel => exact ⟨_, (false), sd_, H', ⟨le1_ HK1.out⟩, dr_⟩
     case rest =>
      clear HC5;try clear pf ph p4 q4 hx4
      obtain ⟨kq, pb, rfl, HA, HJ4, ⟨mc4, rfl⟩⟩ := hcut;cases kq with
      | zero => exact absurd HA.out (by simp [tollref05_Token.j1])
      | succ kj4 =>
       have H := HA.out;clear HA;simp only [tollref05_Token.j1] at H;have HC16 := Aside0.mk H;clear H;go_upto_if 38 with (fail)
       go_cut [38] (fun pt wc => ∃ (kq : Nat) (pe : Bool), pt = .bool pe ∧ Aside0 (tollref05_Token.j2 kq a0 pa pb pe = some r) ∧ Aside0 (kq ≤ kj4) ∧ Drawn0 w wc)
       case first =>
        have H := HC16.out;clear HC16;by_cases c17 : (bt a0 pa) = 33
        ·rw [if_pos c17] at H
         have pd := eqb_ c17;have pg := neb_ c17;clear c17;(first | rw [pd] | rw [pg] | rw [pu] | (simp only [i64_w, i32_w]; rw [pd]) | skip);have H' := Aside0.mk H;clear H;go_wp2;go_meet
         case rel => exact ⟨_, (((bt a0 pa) == 33)), sd_, H', ⟨le2_ HK1.out HJ4.out⟩, dr_⟩
        ·rw [if_neg c17] at H
         have pd := eqf_ c17;have pg := nef_ c17;(first | rw [pd] | rw [pg] | rw [pu] | (simp only [i64_w, i32_w]; rw [pd]) | skip);by_cases c18 : (bt a0 pa) = 35
         ·rw [if_pos c18] at H
          have pv := eqb_ c18;have pw := neb_ c18;clear c18;have H' := Aside0.mk H;clear H;go_wp2;go_meet
          case rel => exact ⟨_, (((bt a0 pa) == 35)), sd_, H', ⟨le2_ HK1.out HJ4.out⟩, dr_⟩
         ·rw [if_neg c18] at H
          have pv := eqf_ c18;have pw := nef_ c18;by_cases c19 : (bt a0 pa) = 36
          ·rw [if_pos c19] at H
           have px := eqb_ c19;have pz := neb_ c19;clear c19;have H' := Aside0.mk H;clear H;go_wp2;go_meet
           case rel => exact ⟨_, (((bt a0 pa) == 36)), sd_, H', ⟨le2_ HK1.out HJ4.out⟩, dr_⟩
          ·rw [if_neg c19] at H
           have px := eqf_ c19;have pz := nef_ c19;by_cases c20 : (bt a0 pa) = 37
           ·rw [if_pos c20] at H
            have pA := eqb_ c20;have pB := neb_ c20;clear c20;have H' := Aside0.mk H;clear H;go_wp2;go_meet
            case rel => exact ⟨_, (((bt a0 pa) == 37)), sd_, H', ⟨le2_ HK1.out HJ4.out⟩, dr_⟩
           ·rw [if_neg c20] at H
            have pA := eqf_ c20;have pB := nef_ c20;by_cases c21 : (bt a0 pa) = 38
            ·rw [if_pos c21] at H
             have pC := eqb_ c21;have pD := neb_ c21;clear c21;have H' := Aside0.mk H;clear H;go_wp2;go_meet
             case rel => exact ⟨_, (((bt a0 pa) == 38)), sd_, H', ⟨le2_ HK1.out HJ4.out⟩, dr_⟩
            ·rw [if_neg c21] at H
             have pC := eqf_ c21;have pD := nef_ c21;by_cases c22 : (bt a0 pa) = 39
             ·rw [if_pos c22] at H
              have pE := eqb_ c22;have pF := neb_ c22;clear c22;have H' := Aside0.mk H;clear H;go_wp2;go_meet
              case rel => exact ⟨_, (((bt a0 pa) == 39)), sd_, H', ⟨le2_ HK1.out HJ4.out⟩, dr_⟩
             ·rw [if_neg c22] at H
              have pE := eqf_ c22;have pF := nef_ c22;by_cases c23 : (bt a0 pa) = 42
              ·rw [if_pos c23] at H
               have pG := eqb_ c23;have pH := neb_ c23;clear c23;have H' := Aside0.mk H;clear H;go_wp2;go_meet
               case rel => exact ⟨_, (((bt a0 pa) == 42)), sd_, H', ⟨le2_ HK1.out HJ4.out⟩, dr_⟩
              ·rw [if_neg c23] at H
               have pG := eqf_ c23;have pH := nef_ c23;by_cases c24 : (bt a0 pa) = 43
               ·rw [if_pos c24] at H
                have pI := eqb_ c24;have pJ := neb_ c24;clear c24;have H' := Aside0.mk H;clear H;go_wp2;go_meet
                case rel => exact ⟨_, (((bt a0 pa) == 43)), sd_, H', ⟨le2_ HK1.out HJ4.out⟩, dr_⟩
               ·rw [if_neg c24] at H
                have pI := eqf_ c24;have pJ := nef_ c24;by_cases c25 : (bt a0 pa) = 45
                ·rw [if_pos c25] at H
                 have pK := eqb_ c25;have pL := neb_ c25;clear c25;have H' := Aside0.mk H;clear H;go_wp2;go_meet
                 case rel => exact ⟨_, (((bt a0 pa) == 45)), sd_, H', ⟨le2_ HK1.out HJ4.out⟩, dr_⟩
                ·rw [if_neg c25] at H
                 have pK := eqf_ c25;have pL := nef_ c25;by_cases c26 : (bt a0 pa) = 46
                 ·rw [if_pos c26] at H
                  have pM := eqb_ c26;have pN := neb_ c26;clear c26;have H' := Aside0.mk H;clear H;go_wp2;go_meet
                  case rel => exact ⟨_, (((bt a0 pa) == 46)), sd_, H', ⟨le2_ HK1.out HJ4.out⟩, dr_⟩
                 ·rw [if_neg c26] at H
                  have pM := eqf_ c26;have pN := nef_ c26;by_cases c27 : (bt a0 pa) = 94
                  ·rw [if_pos c27] at H
                   have pO := eqb_ c27;have pP := neb_ c27;clear c27;have H' := Aside0.mk H;clear H;go_wp2;go_meet
                   case rel => exact ⟨_, (((bt a0 pa) == 94)), sd_, H', ⟨le2_ HK1.out HJ4.out⟩, dr_⟩
                  ·rw [if_neg c27] at H
                   have pO := eqf_ c27;have pP := nef_ c27;by_cases c28 : (bt a0 pa) = 95
                   ·rw [if_pos c28] at H
                    have pQ := eqb_ c28;have pR := neb_ c28;clear c28;have H' := Aside0.mk H;clear H;go_wp2;go_meet
                    case rel => exact ⟨_, (((bt a0 pa) == 95)), sd_, H', ⟨le2_ HK1.out HJ4.out⟩, dr_⟩
                   ·rw [if_neg c28] at H
                    have pQ := eqf_ c28;have pR := nef_ c28;by_cases c29 : (bt a0 pa) = 96
                    ·rw [if_pos c29] at H
                     have pS := eqb_ c29;have pT := neb_ c29;clear c29;have H' := Aside0.mk H;clear H;go_wp2;go_meet
                     case rel => exact ⟨_, (((bt a0 pa) == 96)), sd_, H', ⟨le2_ HK1.out HJ4.out⟩, dr_⟩
                    ·rw [if_neg c29] at H
                     have pS := eqf_ c29;have pT := nef_ c29;by_cases c30 : (bt a0 pa) = 124
                     ·rw [if_pos c30] at H
                      have pU := eqb_ c30;have pV := neb_ c30;clear c30;have H' := Aside0.mk H;clear H;go_wp2;go_meet
                      case rel => exact ⟨_, (((bt a0 pa) == 124)), sd_, H', ⟨le2_ HK1.out HJ4.out⟩, dr_⟩
                     ·rw [if_neg c30] at H
                      have pU := eqf_ c30;have pV := nef_ c30;have H' := Aside0.mk H;clear H;go_wp2;go_meet
                      case rel => exact ⟨_, (((bt a0 pa) == 126)), sd_, H', ⟨le2_ HK1.out HJ4.out⟩, dr_⟩
       case rest =>
        clear HC16;try clear pf ph p4 q4 hx4
        obtain ⟨kq, pe, rfl, HA, HJ15, ⟨mc15, rfl⟩⟩ := hcut;cases kq with
        | zero => exact absurd HA.out (by simp [tollref05_Token.j2])
        | succ kj15 =>
         have H := HA.out;clear HA;simp only [tollref05_Token.j2] at H;by_cases c31 : pe = true
         ·subst c31
          replace H := ift_ H;have H' := Aside0.mk H;clear H;go_wp2;go_roundg kj15
          case measure => have := HK1.out; have := HJ4.out; have := HJ15.out; omega
          case rel => exact ⟨(wrap64 (pa + 1)), sd_, H', ⟨by have := HK1.out; have := HJ4.out; have := HJ15.out; omega⟩, dr_⟩
         ·replace c31 := Bool.eq_false_iff.mpr c31
          subst c31;replace H := iff_ H;by_cases c32 : pb = true
          ·subst c32
           replace H := ift_ H;have H' := Aside0.mk H;clear H;go_wp2;go_roundg kj15
           case measure => have := HK1.out; have := HJ4.out; have := HJ15.out; omega
           case rel => exact ⟨(wrap64 (pa + 1)), sd_, H', ⟨by have := HK1.out; have := HJ4.out; have := HJ15.out; omega⟩, dr_⟩
          ·replace c32 := Bool.eq_false_iff.mpr c32
           subst c32;replace H := iff_ H;obtain rfl := Option.some.inj H;go_wp2;go_ret;exact ⟨sd_, dr_⟩
    ·rw [if_neg c3] at H
     cases H
   ·rw [if_neg c2] at H
    have pf := decide_eq_false c2;clear c2;by_cases c33 : 1 ≤ (a0.size : Int)
    ·rw [if_pos c33] at H
     have pW := decide_eq_true c33;have pX : decide (1 ≤ a0.size) = true := decide_eq_true (by omega);clear c33;obtain rfl := Option.some.inj H;go_wp2;go_ret;exact ⟨sd_, dr_⟩
    ·rw [if_neg c33] at H
     have pW := decide_eq_false c33;have pX : decide (1 ≤ a0.size) = false := decide_eq_false (by omega);clear c33;obtain rfl := Option.some.inj H;go_wp2;go_ret;exact ⟨sd_, dr_⟩

/-! ### tollref05_Value: function 32 -/
def tollref05_Value.l0 : Nat → ByteArray → Int → Option (Bool)
 | 0, _, _ => none
 | k + 1, x0, x3 => if x3 < (x0.size : Int) then (if x3 = 0 then (if 0 ≤ x3 then (if (bt x0 x3) < 32 then (some false) else (if (bt x0 x3) > 126 then (some false) else (if (bt x0 x3) = 32 then (some false) else (tollref05_Value.l0 k x0 (wrap64 (x3 + 1)))))) else (none)) else (if 0 ≤ x3 then (if (bt x0 x3) < 32 then (some false) else (if (bt x0 x3) > 126 then (some false) else (if (bt x0 x3) = 32 then (if x3 = (wrap64 ((x0.size : Int) - 1)) then (some false) else (tollref05_Value.l0 k x0 (wrap64 (x3 + 1)))) else (tollref05_Value.l0 k x0 (wrap64 (x3 + 1)))))) else (none))) else (some (decide ((x0.size : Int) ≤ 40)))
def tollref05_Value.f (k : Nat) (a0 : ByteArray) : Option (Bool) := tollref05_Value.l0 k a0 0
theorem tollref05_Value.mono_l : ∀ k, (∀ y0 y1, LeO (tollref05_Value.l0 k y0 y1) (tollref05_Value.l0 (k + 1) y0 y1))
 | 0 => fun _ _ r h => by simp [tollref05_Value.l0] at h
 | k + 1 => by
  have ih0 := tollref05_Value.mono_l k
  ·intro y0 y1
   unfold tollref05_Value.l0
   repeat' with_reducible first | apply ih0 | apply LeO.refl | apply LeO.none | apply LeO.ite | refine LeO.bind ?_ fun _ => ?_
theorem tollref05_Value.mono : ∀ a0 k, LeO (tollref05_Value.f k a0) (tollref05_Value.f (k + 1) a0) := by
 intro a0 k
 have ih0 := tollref05_Value.mono_l k
 unfold tollref05_Value.f
 repeat' with_reducible first | apply ih0 | apply LeO.refl | apply LeO.none | apply LeO.ite | refine LeO.bind ?_ fun _ => ?_
set_option maxHeartbeats 8000000 in
set_option maxRecDepth 100000 in
theorem tollref05_Value.calls (k : Nat) (a0 : ByteArray) (r : Bool) (w : World) (h : tollref05_Value.f k a0 = some r) :
  Calls Tryz.prog 32 #[.string a0] w fun e w' => e = .returned (.bool r) ∧ Drawn0 w w' := by
 have H : (tollref05_Value.l0 k a0 0) = some r := h;clear h;have H' := Aside0.mk H;clear H;go_enter Tryz.func32, Tryz.ntmps32;go_wp2;go_loopg [3] k (fun kq v3 w' => ∃ (pa : Int), v3 = .int .i64 pa ∧ Aside0 (tollref05_Value.l0 kq a0 pa = some r) ∧ Aside0 (kq ≤ k) ∧ Drawn0 w w')
 case atStart => exact ⟨(0), sd_, H', ⟨Nat.le_refl _⟩, dr_⟩
 case round =>
  clear H';obtain ⟨pa, rfl, HA, HK1, ⟨m1, rfl⟩⟩ := hrel;cases gk with
  | zero => exact absurd HA.out (by simp [tollref05_Value.l0])
  | succ k1 =>
   have H := HA.out;clear HA;simp only [tollref05_Value.l0] at H;by_cases c2 : pa < (a0.size : Int)
   ·rw [if_pos c2] at H
    have pb := decide_eq_true c2;clear c2;by_cases c3 : pa = 0
    ·rw [if_pos c3] at H
     have pc := eqb_ c3;have pd := neb_ c3;clear c3;by_cases c4 : 0 ≤ pa
     ·rw [if_pos c4] at H
      have po := decide_eq_true c4;clear c4;by_cases c6 : (bt a0 pa) < 32
      ·rw [if_pos c6] at H
       have pe := decide_eq_true c6;clear c6;obtain rfl := Option.some.inj H;have p5 : 0 ≤ (pa : Int) := of_decide_eq_true as_;have q5 : pa < (a0.size : Int) := of_decide_eq_true as_;have hx5 := bt_at a0 pa;replace p5 := eq_true p5;replace q5 := eq_true q5;go_wp2;go_ret;exact ⟨sd_, dr_⟩
      ·rw [if_neg c6] at H
       have pe := decide_eq_false c6;clear c6;by_cases c8 : (bt a0 pa) > 126
       ·rw [if_pos c8] at H
        have pf := decide_eq_true c8;clear c8;obtain rfl := Option.some.inj H;have p5 : 0 ≤ (pa : Int) := of_decide_eq_true as_;have q5 : pa < (a0.size : Int) := of_decide_eq_true as_;have hx5 := bt_at a0 pa;replace p5 := eq_true p5;replace q5 := eq_true q5;have p7 : 0 ≤ (pa : Int) := of_decide_eq_true as_;have q7 : pa < (a0.size : Int) := of_decide_eq_true as_;have hx7 := bt_at a0 pa;replace p7 := eq_true p7;replace q7 := eq_true q7;go_wp2;go_ret;exact ⟨sd_, dr_⟩
       ·rw [if_neg c8] at H
        have pf := decide_eq_false c8;clear c8;by_cases c10 : (bt a0 pa) = 32
        ·rw [if_pos c10] at H
         have pg := eqb_ c10;have ph := neb_ c10;clear c10;obtain rfl := Option.some.inj H;have p5 : 0 ≤ (pa : Int) := of_decide_eq_true as_;have q5 : pa < (a0.size : Int) := of_decide_eq_true as_;have hx5 := bt_at a0 pa;replace p5 := eq_true p5;replace q5 := eq_true q5;have p7 : 0 ≤ (pa : Int) := of_decide_eq_true as_;have q7 : pa < (a0.size : Int) := of_decide_eq_true as_;have hx7 := bt_at a0 pa;replace p7 := eq_true p7;replace q7 := eq_true q7;have p9 : 0 ≤ (pa : Int) := of_decide_eq_true as_;have q9 : pa < (a0.size : Int) := of_decide_eq_true as_;have hx9 := bt_at a0 pa;replace p9 := eq_true p9;replace q9 := eq_true q9;go_wp2;go_ret;exact ⟨sd_, dr_⟩
        ·rw [if_neg c10] at H
         have pg := eqf_ c10;have ph := nef_ c10;have H' := Aside0.mk H;clear H;have p5 : 0 ≤ (pa : Int) := of_decide_eq_true as_;have q5 : pa < (a0.size : Int) := of_decide_eq_true as_;have hx5 := bt_at a0 pa;replace p5 := eq_true p5;replace q5 := eq_true q5;have p7 : 0 ≤ (pa : Int) := of_decide_eq_true as_;have q7 : pa < (a0.size : Int) := of_decide_eq_true as_;have hx7 := bt_at a0 pa;replace p7 := eq_true p7;replace q7 := eq_true q7;have p9 : 0 ≤ (pa : Int) := of_decide_eq_true as_;have q9 : pa < (a0.size : Int) := of_decide_eq_true as_;have hx9 := bt_at a0 pa;replace p9 := eq_true p9;replace q9 := eq_true q9;go_wp2;go_roundg k1
         case measure => have := HK1.out; omega
         case rel => exact ⟨(wrap64 (pa + 1)), sd_, H', ⟨le1_ HK1.out⟩, dr_⟩
     ·rw [if_neg c4] at H
      cases H
    ·rw [if_neg c3] at H
     have pc := eqf_ c3;have pd := nef_ c3;by_cases c11 : 0 ≤ pa
     ·rw [if_pos c11] at H
      have pp := decide_eq_true c11;clear c11;by_cases c13 : (bt a0 pa) < 32
      ·rw [if_pos c13] at H
       have pi := decide_eq_true c13;clear c13;obtain rfl := Option.some.inj H;have p12 : 0 ≤ (pa : Int) := of_decide_eq_true as_;have q12 : pa < (a0.size : Int) := of_decide_eq_true as_;have hx12 := bt_at a0 pa;replace p12 := eq_true p12;replace q12 := eq_true q12;go_wp2;go_ret;exact ⟨sd_, dr_⟩
      ·rw [if_neg c13] at H
       have pi := decide_eq_false c13;clear c13;by_cases c15 : (bt a0 pa) > 126
       ·rw [if_pos c15] at H
        have pj := decide_eq_true c15;clear c15;obtain rfl := Option.some.inj H;have p12 : 0 ≤ (pa : Int) := of_decide_eq_true as_;have q12 : pa < (a0.size : Int) := of_decide_eq_true as_;have hx12 := bt_at a0 pa;replace p12 := eq_true p12;replace q12 := eq_true q12;have p14 : 0 ≤ (pa : Int) := of_decide_eq_true as_;have q14 : pa < (a0.size : Int) := of_decide_eq_true as_;have hx14 := bt_at a0 pa;replace p14 := eq_true p14;replace q14 := eq_true q14;go_wp2;go_ret;exact ⟨sd_, dr_⟩
       ·rw [if_neg c15] at H
        have pj := decide_eq_false c15;clear c15;by_cases c17 : (bt a0 pa) = 32
        ·rw [if_pos c17] at H
         have pk := eqb_ c17;have pl := neb_ c17;clear c17;by_cases c18 : pa = (wrap64 ((a0.size : Int) - 1))
         ·rw [if_pos c18] at H
          have pm := eqb_ c18;have pn := neb_ c18;clear c18;obtain rfl := Option.some.inj H;have p12 : 0 ≤ (pa : Int) := of_decide_eq_true as_;have q12 : pa < (a0.size : Int) := of_decide_eq_true as_;have hx12 := bt_at a0 pa;replace p12 := eq_true p12;replace q12 := eq_true q12;have p14 : 0 ≤ (pa : Int) := of_decide_eq_true as_;have q14 : pa < (a0.size : Int) := of_decide_eq_true as_;have hx14 := bt_at a0 pa;replace p14 := eq_true p14;replace q14 := eq_true q14;have p16 : 0 ≤ (pa : Int) := of_decide_eq_true as_;have q16 : pa < (a0.size : Int) := of_decide_eq_true as_;have hx16 := bt_at a0 pa;replace p16 := eq_true p16;replace q16 := eq_true q16;go_wp2;go_ret;exact ⟨sd_, dr_⟩
         ·rw [if_neg c18] at H
          have pm := eqf_ c18;have pn := nef_ c18;have H' := Aside0.mk H;clear H;have p12 : 0 ≤ (pa : Int) := of_decide_eq_true as_;have q12 : pa < (a0.size : Int) := of_decide_eq_true as_;have hx12 := bt_at a0 pa;replace p12 := eq_true p12;replace q12 := eq_true q12;have p14 : 0 ≤ (pa : Int) := of_decide_eq_true as_;have q14 : pa < (a0.size : Int) := of_decide_eq_true as_;have hx14 := bt_at a0 pa;replace p14 := eq_true p14;replace q14 := eq_true q14;have p16 : 0 ≤ (pa : Int) := of_decide_eq_true as_;have q16 : pa < (a0.size : Int) := of_decide_eq_true as_;have hx16 := bt_at a0 pa;replace p16 := eq_true p16;replace q16 := eq_true q16;go_wp2;go_roundg k1
          case measure => have := HK1.out; omega
          case rel => exact ⟨(wrap64 (pa + 1)), sd_, H', ⟨le1_ HK1.out⟩, dr_⟩
        ·rw [if_neg c17] at H
         have pk := eqf_ c17;have pl := nef_ c17;have H' := Aside0.mk H;clear H;have p12 : 0 ≤ (pa : Int) := of_decide_eq_true as_;have q12 : pa < (a0.size : Int) := of_decide_eq_true as_;have hx12 := bt_at a0 pa;replace p12 := eq_true p12;replace q12 := eq_true q12;have p14 : 0 ≤ (pa : Int) := of_decide_eq_true as_;have q14 : pa < (a0.size : Int) := of_decide_eq_true as_;have hx14 := bt_at a0 pa;replace p14 := eq_true p14;replace q14 := eq_true q14;have p16 : 0 ≤ (pa : Int) := of_decide_eq_true as_;have q16 : pa < (a0.size : Int) := of_decide_eq_true as_;have hx16 := bt_at a0 pa;replace p16 := eq_true p16;replace q16 := eq_true q16;go_wp2;go_roundg k1
         case measure => have := HK1.out; omega
         case rel => exact ⟨(wrap64 (pa + 1)), sd_, H', ⟨le1_ HK1.out⟩, dr_⟩
     ·rw [if_neg c11] at H
      cases H
   ·rw [if_neg c2] at H
    have pb := decide_eq_false c2;clear c2;obtain rfl := Option.some.inj H;go_wp2;go_ret;exact ⟨sd_, dr_⟩

/-! ### tollref01_Split: function 81 -/
def tollref01_Split.l0 : Nat → ByteArray → Int → List ByteArray → Int → Option (List ByteArray)
 | 0, _, _, _, _ => none
 | k + 1, x0, x1, x5, x6 => if x6 < (x0.size : Int) then (if 0 ≤ x6 then (if (bt x0 x6) = x1 then (if x5.length < 8796093022208 then (tollref01_Split.l0 k x0 x1 (x5 ++ [(⟨#[]⟩ : ByteArray)]) (wrap64 (x6 + 1))) else (none)) else (if 0 ≤ (wrap64 ((x5.length : Int) - 1)) then (if (wrap64 ((x5.length : Int) - 1)) < (x5.length : Int) then (if x6 ≤ (wrap64 (x6 + 1)) then (if (wrap64 (x6 + 1)) ≤ (x0.size : Int) then (if (rdOf ByteArray.empty x5 (wrap64 ((x5.length : Int) - 1))).size + (x0.extract (x6 : Int).toNat ((wrap64 (x6 + 1)) : Int).toNat).size ≤ 9223372036854775807 then (tollref01_Split.l0 k x0 x1 (x5.set ((wrap64 ((x5.length : Int) - 1)) : Int).toNat ((rdOf ByteArray.empty x5 (wrap64 ((x5.length : Int) - 1))) ++ (x0.extract (x6 : Int).toNat ((wrap64 (x6 + 1)) : Int).toNat))) (wrap64 (x6 + 1))) else (none)) else (none)) else (none)) else (none)) else (none))) else (none)) else (some x5)
def tollref01_Split.f (k : Nat) (a0 : ByteArray) (a1 : Int) : Option (List ByteArray) := tollref01_Split.l0 k a0 a1 (([(⟨#[]⟩ : ByteArray)] : List ByteArray)) 0
theorem tollref01_Split.mono_l : ∀ k, (∀ y0 y1 y2 y3, LeO (tollref01_Split.l0 k y0 y1 y2 y3) (tollref01_Split.l0 (k + 1) y0 y1 y2 y3))
 | 0 => fun _ _ _ _ r h => by simp [tollref01_Split.l0] at h
 | k + 1 => by
  have ih0 := tollref01_Split.mono_l k
  ·intro y0 y1 y2 y3
   unfold tollref01_Split.l0
   repeat' with_reducible first | apply ih0 | apply LeO.refl | apply LeO.none | apply LeO.ite | refine LeO.bind ?_ fun _ => ?_
theorem tollref01_Split.mono : ∀ a0 a1 k, LeO (tollref01_Split.f k a0 a1) (tollref01_Split.f (k + 1) a0 a1) := by
 intro a0 a1 k
 have ih0 := tollref01_Split.mono_l k
 unfold tollref01_Split.f
 repeat' with_reducible first | apply ih0 | apply LeO.refl | apply LeO.none | apply LeO.ite | refine LeO.bind ?_ fun _ => ?_
def tollref01_Split.T7 : Bool × List (List Nat × List Nat) := (true, [([], []), ([], []), ([1], [1]), ([2], [2]), ([0, 3], [0, 3]), ([4], [4]), ([], []), ([], []), ([], []), ([8], [8]), ([6, 7, 9], [6, 7, 9]), ([5, 10], [5, 10]), ([0, 3, 0, 1, 2, 3, 4, 5, 6, 7, 8, 9, 10, 11], [0, 3]), ([12, 11, 0, 1, 2, 3, 4, 5, 6, 7, 8, 9, 10, 11], [11, 12])])
def tollref01_Split.B7 : List Nat := [0, 0, 2, 6, 15, 31, 0, 0, 0, 256, 960, 2047, 4095, 8191]
theorem tollref01_Split.tab7 : rtab .any (opsOf Tryz.f81 7) = tollref01_Split.T7 := by kernel_rfl
theorem tollref01_Split.bits7 : waitsOk tollref01_Split.T7.2 tollref01_Split.B7 = true := by kernel_rfl
set_option maxHeartbeats 8000000 in
set_option maxRecDepth 100000 in
theorem tollref01_Split.calls (k : Nat) (a0 : ByteArray) (a1 : Int) (r : List ByteArray) (w : World) (h : tollref01_Split.f k a0 a1 = some r) :
  Calls Tryz.prog 81 #[.string a0, .int .u8 a1] w fun e w' => ∃ v0_ : Value, e = .returned (v0_) ∧ Kd.R Kd.string 9 w' w.heap.size (fun _ => True) v0_ r ∧ Below w.heap.size w w' := by
 have HB := am_ (Below.refl w.heap.size w);have H : (tollref01_Split.l0 k a0 a1 (([(⟨#[]⟩ : ByteArray)] : List ByteArray)) 0) = some r := h;clear h;obtain ⟨pf, hy140⟩ : ∃ y_ : List ByteArray, y_ = (([(⟨#[]⟩ : ByteArray)] : List ByteArray)) := ⟨_, rfl⟩;replace H : (tollref01_Split.l0 k a0 a1 pf 0) = some r := by first | (rw [hy140]; with_reducible exact H) | (have H2_ := (Option.bind_some _ _).symm.trans H; rw [hy140]; with_reducible exact H2_) | (have H2_ := (Option.bind_some _ _).symm.trans H; with_reducible exact H2_) | with_reducible exact H | (rw [hy140]; exact H) | exact H
 have pg := Aside0.mk hy140;clear hy140;have H' := Aside0.mk H;clear H;go_enter Tryz.func81, Tryz.ntmps81;go_wp2_with (first | ((with_reducible refine gate_dst (N := 7) rfl ?_); refine Kd.R_lit Kd.string _ 9 ?hg (N := 7) ?hd (xs := ([(⟨#[]⟩ : ByteArray)] : List ByteArray)) (inner := [.string (⟨#[]⟩ : ByteArray)]) (ok := fun _ => True) (okp := fun _ => True) ?hr ?hp (fun _ hk => hk) trivial (Below.refl _ _) (Nat.le_refl _) (by simp) ?_; (case hd => rfl); (case hg => rfl); (case hr => first | (go_simp; done) | (go_simp; rfl)); (case hp => exact (Reps.one (show Kd.M Kd.string _ _ _ (⟨#[]⟩ : ByteArray) [.string (⟨#[]⟩ : ByteArray)] from rfl) (Reps.none _ _))); intro pt w3 ho4 hb hg_ hnew_; clear hg_ hnew_; (first | rw [← pg.out] at ho4 | (simp only [Int.reduceToNat] at ho4; rw [← pg.out] at ho4)); have pk := am_ (Kd.R_lower ho4 (below_size (bel_ HB.out))); replace HB := bs_ HB hb; clear hb ho4));go_loopg [5, 6] k (fun kq v5 v6 w' => ∃ (pb : List ByteArray) (pa : Int), v6 = .int .i64 pa ∧ Aside0 (tollref01_Split.l0 kq a0 a1 pb pa = some r) ∧ Aside0 (kq ≤ k) ∧ Aside0 (Kd.R Kd.string 9 w' w.heap.size (fun _ => True) v5 pb) ∧ Aside0 (Below w.heap.size w w'))
 case atStart => exact ⟨(pf), (0), sd_, H', ⟨Nat.le_refl _⟩, ⟨R_ pk.out⟩, ⟨bel_ HB.out⟩⟩
 case round =>
  clear H';obtain ⟨pb, pa, rfl, HA, HK1, pc, HB⟩ := hrel;cases gk with
  | zero => exact absurd HA.out (by simp [tollref01_Split.l0])
  | succ k1 =>
   have H := HA.out;clear HA;simp only [tollref01_Split.l0] at H;by_cases c5 : pa < (a0.size : Int)
   ·rw [if_pos c5] at H
    have pl := decide_eq_true c5;clear c5;by_cases c6 : 0 ≤ pa
    ·rw [if_pos c6] at H
     have pu := decide_eq_true c6;clear c6;by_cases c8 : (bt a0 pa) = a1
     ·rw [if_pos c8] at H
      have pm := eqb_ c8;have pn := neb_ c8;clear c8;by_cases c9 : pb.length < 8796093022208
      ·rw [if_pos c9] at H
       have po := Aside0.mk c9;clear c9;obtain ⟨ph, hy143⟩ : ∃ y_ : List ByteArray, y_ = (pb ++ [(⟨#[]⟩ : ByteArray)]) := ⟨_, rfl⟩;replace H : (tollref01_Split.l0 k1 a0 a1 ph (wrap64 (pa + 1))) = some r := by first | (rw [hy143]; with_reducible exact H) | (have H2_ := (Option.bind_some _ _).symm.trans H; rw [hy143]; with_reducible exact H2_) | (have H2_ := (Option.bind_some _ _).symm.trans H; with_reducible exact H2_) | with_reducible exact H | (rw [hy143]; exact H) | exact H
       have pp := Aside0.mk hy143;clear hy143;have H' := Aside0.mk H;clear H;have p7 : 0 ≤ (pa : Int) := of_decide_eq_true as_;have q7 : pa < (a0.size : Int) := of_decide_eq_true as_;have hx7 := bt_at a0 pa;replace p7 := eq_true p7;replace q7 := eq_true q7;go_wp2_with (first | ((with_reducible refine gate_builtin (b := .append) (xs := #[.tmp 19, .tmp 20]) rfl ?_); at_builtin; refine Kd.R_append Kd.string (w0 := w) w.heap.size rfl (.tmp 19) (.tmp 20) 55 9 (.string ⟨#[]⟩) 16 rfl Tryz.underlying55 info9 rfl (by decide) (by omega) u5 pb (⟨#[]⟩ : ByteArray) [.string (⟨#[]⟩ : ByteArray)] (fun _ => True) (fun _ => False) rfl rfl ?aP (fun _ hk => hk.elim) ?aF ?aO ?aB ?aS ?aL ?_; (case aP => exact rfl); (case aB => exact (bel_ HB.out)); (case aF => exact (fun _ _ => trivial)); (case aO => exact (R_ pc.out)); (case aS => exact (below_size (bel_ HB.out))); (case aL => have := po.out; omega); intro pv w10 ho hb hg hat; rw [← pp.out] at ho; replace HB := am_ (hb); have pq := am_ (ho); clear pc ho hb hg hat));go_roundg k1
       case measure => have := HK1.out; omega
       case rel => exact ⟨(ph), (wrap64 (pa + 1)), sd_, H', ⟨le1_ HK1.out⟩, ⟨R_ pq.out⟩, ⟨bel_ HB.out⟩⟩
      ·rw [if_neg c9] at H
       cases H
     ·rw [if_neg c8] at H
      have pm := eqf_ c8;have pn := nef_ c8;obtain ⟨ji11, pd⟩ : ∃ j_ : Int, (wrap64 ((pb.length : Int) - 1)) = j_ := ⟨_, rfl⟩;replace H : (if 0 ≤ (ji11) then (if (ji11) < (pb.length : Int) then (if pa ≤ (wrap64 (pa + 1)) then (if (wrap64 (pa + 1)) ≤ (a0.size : Int) then (if (rdOf ByteArray.empty pb (ji11)).size + (a0.extract (pa : Int).toNat ((wrap64 (pa + 1)) : Int).toNat).size ≤ 9223372036854775807 then (tollref01_Split.l0 k1 a0 a1 (pb.set ((ji11) : Int).toNat ((rdOf ByteArray.empty pb (ji11)) ++ (a0.extract (pa : Int).toNat ((wrap64 (pa + 1)) : Int).toNat))) (wrap64 (pa + 1))) else (none)) else (none)) else (none)) else (none)) else (none)) = some r := by first | (rw [pd] at H; exact H) | (simp only [pd] at H ⊢; exact H)
      have hji11w : (IntKind.i64.wrap ((pb.length : Int) - 1)) = ji11 := (i64_w _).trans pd;by_cases c12 : 0 ≤ (ji11)
      ·rw [if_pos c12] at H
       have pw := decide_eq_true c12;clear c12;by_cases c13 : (ji11) < (pb.length : Int)
       ·rw [if_pos c13] at H
        have px := decide_eq_true c13;clear c13;have pz := eq_true (of_decide_eq_true as_ : 0 ≤ pa);by_cases c15 : pa ≤ (wrap64 (pa + 1))
        ·rw [if_pos c15] at H
         have pA := eq_true c15;have pB := decide_eq_true c15;by_cases c16 : (wrap64 (pa + 1)) ≤ (a0.size : Int)
         ·rw [if_pos c16] at H
          have pC := eq_true c16;have pD := decide_eq_true c16;by_cases c17 : (rdOf ByteArray.empty pb (ji11)).size + (a0.extract (pa : Int).toNat ((wrap64 (pa + 1)) : Int).toNat).size ≤ 9223372036854775807
          ·rw [if_pos c17] at H
           have pE := eq_true c17;have pF := decide_eq_true c17;try have pG : (9223372036854775807 < (rdOf ByteArray.empty pb (ji11)).size + (a0.extract (pa : Int).toNat ((wrap64 (pa + 1)) : Int).toNat).size) = False := eq_false (Nat.not_lt.2 c17)
           (try (have c17s := c17; rw [ByteArray.size_extract, Nat.min_eq_left (by omega)] at c17s; have c17n := eq_false (Nat.not_lt.2 c17s)));obtain ⟨pi, hy147⟩ : ∃ y_ : List ByteArray, y_ = (pb.set ((ji11) : Int).toNat ((rdOf ByteArray.empty pb (ji11)) ++ (a0.extract (pa : Int).toNat ((wrap64 (pa + 1)) : Int).toNat))) := ⟨_, rfl⟩;replace H : (tollref01_Split.l0 k1 a0 a1 pi (wrap64 (pa + 1))) = some r := by first | (rw [hy147]; with_reducible exact H) | (have H2_ := (Option.bind_some _ _).symm.trans H; rw [hy147]; with_reducible exact H2_) | (have H2_ := (Option.bind_some _ _).symm.trans H; with_reducible exact H2_) | with_reducible exact H | (rw [hy147]; exact H) | exact H
           have pr := Aside0.mk hy147;clear hy147;have H' := Aside0.mk H;clear H;have p7 : 0 ≤ (pa : Int) := of_decide_eq_true as_;have q7 : pa < (a0.size : Int) := of_decide_eq_true as_;have hx7 := bt_at a0 pa;replace p7 := eq_true p7;replace q7 := eq_true q7;try go_wp2
           replace pc := am_ (Kd.R_drew pc.out);replace HB := am_ (below_drew1 HB.out);obtain ⟨pH, pI, eo20⟩ := Kd.R_slice pc.out;(first | subst eo20 | (injection eo20 with f1_ f2_ f3_; have f4_ := f1_.symm; have f5_ := f3_.symm; clear f1_ f2_ f3_; subst f4_; subst f5_));have p146 : 0 ≤ ((ji11) : Int) := of_decide_eq_true as_;have q146 : (ji11) < (pb.length : Int) := of_decide_eq_true as_;obtain ⟨pJ, e146, pe⟩ := Kd.at_string (Kd.R_reads' pc.out).2.2 (ji11) p146 q146;cases e146
           replace p146 := eq_true p146;replace q146 := eq_true q146;have p18 : 0 ≤ ((ji11) : Int) := of_decide_eq_true as_;have q18 : ((ji11) : Int) < ((pb.length : Int) : Int) := of_decide_eq_true as_;obtain ⟨go18, pK, eo18, pj, gl18, cl18, HG18⟩ := Kd.R_form pc.out (by omega);(first | cases eo18 | (injection eo18 with ea_ en_ ec_; (first | subst ea_ | (injection ea_ with ea_; subst ea_)); subst ec_; clear en_));have GB18 := Aside0.mk pj;have GG18 := Aside0.mk HG18;clear pj gl18 HG18;(first | simp only [add_plain] at pe | skip);obtain ⟨ps, hf18_0⟩ := Kd.R_celln (⟨#[]⟩ : ByteArray) pc.out ((ji11) : Int) p18 q18;replace p18 := eq_true p18;replace q18 := eq_true q18;have HP21 := Kd.R_putn pc.out ((ji11) : Int) ((rdOf ByteArray.empty pb (ji11)) ++ (a0.extract (pa : Int).toNat ((wrap64 (pa + 1)) : Int).toNat));rw [← pr.out] at HP21;have HQ21 := Aside0.mk HP21;clear HP21;refine start_ (n := 14) (S := fun w' => w'.cell? ⟨go18, ((ji11)).toNat, none⟩ = some (.string (rdOf ByteArray.empty pb (ji11)))) (ds := [13]) #[false, false, false, false, false, false, false, false, false, false, false, false, false, false] kr_ rfl rfl (pe) (fun hHeld => ?_); refine with_tabW tollref01_Split.tab7 tollref01_Split.bits7 (fun HT_ HW_ => ?_);generalize wr.drew = w19 at pc HB GG18 HQ21 hf18_0 pe ps hHeld ⊢;refine pur_ (i := 0) (N := some 22) (v := ?_) (a' := ?_) rfl rfl HT_ (fun _ _ _ h => h) (Or.inl ⟨by rfl, ?_⟩) ?_ ?_;rotate_left
           ·intro w'
            go_simp;(with_reducible rfl)
           rotate_left
           ·simp only [Act.put, sx_, s0_, s1_, i64_w, i32_w]
            rfl
           refine pur_ (i := 1) (N := some 23) (v := ?_) (a' := ?_) rfl rfl HT_ (fun _ _ _ h => h) (Or.inl ⟨by rfl, ?_⟩) ?_ ?_;rotate_left
           ·intro w'
            go_simp;(with_reducible rfl)
           rotate_left
           ·simp only [Act.put, sx_, s0_, s1_, i64_w, i32_w]
            rfl
           refine pur_ (i := 2) (N := some 24) (v := ?_) (a' := ?_) rfl rfl HT_ (fun _ _ _ h => h) (Or.inl ⟨by rfl, ?_⟩) ?_ ?_;rotate_left
           ·intro w'
            go_simp;(with_reducible rfl)
           rotate_left
           ·simp only [Act.put, sx_, s0_, s1_, i64_w, i32_w]
            rfl
           refine pur_ (i := 3) (N := some 25) (v := ?_) (a' := ?_) rfl rfl HT_ (fun _ _ _ h => h) (Or.inl ⟨by rfl, ?_⟩) ?_ ?_;rotate_left
           ·intro w'
            go_simp;(with_reducible rfl)
           rotate_left
           ·simp only [Act.put, sx_, s0_, s1_, i64_w, i32_w]
            rfl
           refine pur_ (i := 4) (N := some 26) (v := ?_) (a' := ?_) rfl rfl HT_ (fun _ _ _ h => h) (Or.inl ⟨by rfl, ?_⟩) ?_ ?_;rotate_left
           ·intro w'
            go_simp;(with_reducible rfl)
           rotate_left
           ·simp only [Act.put, sx_, s0_, s1_, i64_w, i32_w]
            rfl
           refine pur_ (i := 6) (N := some 28) (v := ?_) (a' := ?_) rfl rfl HT_ (fun _ _ _ h => h) (Or.inl ⟨by rfl, ?_⟩) ?_ ?_;rotate_left
           ·intro w'
            go_simp;(with_reducible rfl)
           rotate_left
           ·simp only [Act.put, sx_, s0_, s1_, i64_w, i32_w]
            rfl
           refine pur_ (i := 7) (N := some 29) (v := ?_) (a' := ?_) rfl rfl HT_ (fun _ _ _ h => h) (Or.inl ⟨by rfl, ?_⟩) ?_ ?_;rotate_left
           ·intro w'
            go_simp;(with_reducible rfl)
           rotate_left
           ·simp only [Act.put, sx_, s0_, s1_, i64_w, i32_w]
            rfl
           refine pur_ (i := 8) (N := some 30) (v := ?_) (a' := ?_) rfl rfl HT_ (fun _ _ _ h => h) (Or.inl ⟨by rfl, ?_⟩) ?_ ?_;rotate_left
           ·intro w'
            go_simp;(with_reducible rfl)
           rotate_left
           ·simp only [Act.put, sx_, s0_, s1_, i64_w, i32_w]
            rfl
           refine pur_ (i := 9) (N := some 31) (v := ?_) (a' := ?_) rfl rfl HT_ (fun _ _ _ h => h) (Or.inl ⟨by rfl, ?_⟩) ?_ ?_;rotate_left
           ·intro w'
            go_simp;(with_reducible rfl)
           rotate_left
           ·simp only [Act.put, sx_, s0_, s1_, i64_w, i32_w]
            rfl
           refine pur_ (i := 10) (N := some 32) (v := ?_) (a' := ?_) rfl rfl HT_ (fun _ _ _ h => h) (Or.inl ⟨by rfl, ?_⟩) ?_ ?_;rotate_left
           ·intro w'
            go_simp;(with_reducible rfl)
           rotate_left
           ·simp only [Act.put, sx_, s0_, s1_, i64_w, i32_w]
            rfl
           refine tak_ (i := 5) (N := some 27) (v := ?_) (a' := ?_) rfl rfl HT_ HW_ (fun _ _ _ h => h) (Or.inl ⟨by rfl, ?_⟩) hHeld ?_ ?_;rotate_left
           ·intro w' s0
            go_simp;(with_reducible rfl)
           rotate_left
           ·simp only [Act.put, sx_, s0_, s1_, i64_w, i32_w]
            rfl
           refine pur_ (i := 11) (N := some 33) (v := ?_) (a' := ?_) rfl rfl HT_ (fun _ _ _ h => h) (Or.inl ⟨by rfl, ?_⟩) ?_ ?_;rotate_left
           ·intro w'
            go_simp;(with_reducible rfl)
           rotate_left
           ·simp only [Act.put, sx_, s0_, s1_, i64_w, i32_w]
            rfl
           refine pur_ (i := 12) (N := some 34) (v := ?_) (a' := ?_) rfl rfl HT_ (fun _ _ _ h => h) (Or.inl ⟨by rfl, ?_⟩) ?_ ?_;rotate_left
           ·intro w'
            go_simp;(with_reducible rfl)
           rotate_left
           ·simp only [Act.put, sx_, s0_, s1_, i64_w, i32_w]
            rfl
           refine las_ (i := 13) (N := none) rfl rfl HT_ (by decide) (fun K hK => ?_);refine skip_ (w1 := ?_) (by rfl) rfl ?_ ?_;rotate_left
           ·go_simp
            rfl
           refine hK.out _ _ ?_;clear hK K;refine done_ (done_of HT_.out kr_) ?_;try go_wp2
           go_roundg k1
           case measure => have := HK1.out; omega
           case rel => exact ⟨(pi), (wrap64 (pa + 1)), sd_, H', ⟨le1_ HK1.out⟩, ⟨R_ HQ21.out⟩, ⟨bel_ HB.out⟩⟩
          ·rw [if_neg c17] at H
           cases H
         ·rw [if_neg c16] at H
          cases H
        ·rw [if_neg c15] at H
         cases H
       ·rw [if_neg c13] at H
        cases H
      ·rw [if_neg c12] at H
       cases H
    ·rw [if_neg c6] at H
     cases H
   ·rw [if_neg c5] at H
    have pl := decide_eq_false c5;clear c5;obtain rfl := Option.some.inj H;go_wp2;go_ret;exact ⟨_, by first | rfl | (simp [errW_none, errW_some] <;> rfl) | (simp [*, errW_none, errW_some] <;> rfl), by (with_reducible repeat (first | apply Kd.R_alloc | apply Kd.R_drewN | apply Kd.R_drew)); exact pc.out, bel_ HB.out⟩

/-! ### tollref01_Label: function 82 -/
def tollref01_Label.l0 : Nat → ByteArray → Int → Option (Bool)
 | 0, _, _ => none
 | k + 1, x0, x3 => if x3 < (x0.size : Int) then (if 0 ≤ x3 then (if x3 = 0 then (if 97 ≤ (bt x0 x3) then (if (bt x0 x3) ≤ 122 then (tollref01_Label.l0 k x0 (wrap64 (x3 + 1))) else (if 48 ≤ (bt x0 x3) then (if (bt x0 x3) ≤ 57 then (tollref01_Label.l0 k x0 (wrap64 (x3 + 1))) else (if (bt x0 x3) = 45 then (some false) else (some false))) else (if (bt x0 x3) = 45 then (some false) else (some false)))) else (if 48 ≤ (bt x0 x3) then (if (bt x0 x3) ≤ 57 then (tollref01_Label.l0 k x0 (wrap64 (x3 + 1))) else (if (bt x0 x3) = 45 then (some false) else (some false))) else (if (bt x0 x3) = 45 then (some false) else (some false)))) else (if 97 ≤ (bt x0 x3) then (if (bt x0 x3) ≤ 122 then (tollref01_Label.l0 k x0 (wrap64 (x3 + 1))) else (if 48 ≤ (bt x0 x3) then (if (bt x0 x3) ≤ 57 then (tollref01_Label.l0 k x0 (wrap64 (x3 + 1))) else (if (bt x0 x3) = 45 then (if (x3 = (wrap64 ((x0.size : Int) - 1))) then (some false) else (tollref01_Label.l0 k x0 (wrap64 (x3 + 1)))) else (some false))) else (if (bt x0 x3) = 45 then (if (x3 = (wrap64 ((x0.size : Int) - 1))) then (some false) else (tollref01_Label.l0 k x0 (wrap64 (x3 + 1)))) else (some false)))) else (if 48 ≤ (bt x0 x3) then (if (bt x0 x3) ≤ 57 then (tollref01_Label.l0 k x0 (wrap64 (x3 + 1))) else (if (bt x0 x3) = 45 then (if (x3 = (wrap64 ((x0.size : Int) - 1))) then (some false) else (tollref01_Label.l0 k x0 (wrap64 (x3 + 1)))) else (some false))) else (if (bt x0 x3) = 45 then (if (x3 = (wrap64 ((x0.size : Int) - 1))) then (some false) else (tollref01_Label.l0 k x0 (wrap64 (x3 + 1)))) else (some false))))) else (none)) else (if 1 ≤ (x0.size : Int) then (some (decide ((x0.size : Int) ≤ 20))) else (some false))
def tollref01_Label.f (k : Nat) (a0 : ByteArray) : Option (Bool) := tollref01_Label.l0 k a0 0
theorem tollref01_Label.mono_l : ∀ k, (∀ y0 y1, LeO (tollref01_Label.l0 k y0 y1) (tollref01_Label.l0 (k + 1) y0 y1))
 | 0 => fun _ _ r h => by simp [tollref01_Label.l0] at h
 | k + 1 => by
  have ih0 := tollref01_Label.mono_l k
  ·intro y0 y1
   unfold tollref01_Label.l0
   repeat' with_reducible first | apply ih0 | apply LeO.refl | apply LeO.none | apply LeO.ite | refine LeO.bind ?_ fun _ => ?_
theorem tollref01_Label.mono : ∀ a0 k, LeO (tollref01_Label.f k a0) (tollref01_Label.f (k + 1) a0) := by
 intro a0 k
 have ih0 := tollref01_Label.mono_l k
 unfold tollref01_Label.f
 repeat' with_reducible first | apply ih0 | apply LeO.refl | apply LeO.none | apply LeO.ite | refine LeO.bind ?_ fun _ => ?_
set_option maxHeartbeats 8000000 in
set_option maxRecDepth 100000 in
theorem tollref01_Label.calls (k : Nat) (a0 : ByteArray) (r : Bool) (w : World) (h : tollref01_Label.f k a0 = some r) :
  Calls Tryz.prog 82 #[.string a0] w fun e w' => e = .returned (.bool r) ∧ Drawn0 w w' := by
 have H : (tollref01_Label.l0 k a0 0) = some r := h;clear h;have H' := Aside0.mk H;clear H;go_enter Tryz.func82, Tryz.ntmps82;go_wp2;go_loopg [3] k (fun kq v3 w' => ∃ (pa : Int), v3 = .int .i64 pa ∧ Aside0 (tollref01_Label.l0 kq a0 pa = some r) ∧ Aside0 (kq ≤ k) ∧ Drawn0 w w')
 case atStart => exact ⟨(0), sd_, H', ⟨Nat.le_refl _⟩, dr_⟩
 case round =>
  clear H';obtain ⟨pa, rfl, HA, HK1, ⟨m1, rfl⟩⟩ := hrel;cases gk with
  | zero => exact absurd HA.out (by simp [tollref01_Label.l0])
  | succ k1 =>
   have H := HA.out;clear HA;simp only [tollref01_Label.l0] at H;by_cases c2 : pa < (a0.size : Int)
   ·rw [if_pos c2] at H
    have pb := decide_eq_true c2;clear c2;by_cases c3 : 0 ≤ pa
    ·rw [if_pos c3] at H
     have pR := decide_eq_true c3;clear c3;by_cases c5 : pa = 0
     ·rw [if_pos c5] at H
      have pc := eqb_ c5;have pd := neb_ c5;clear c5;by_cases c6 : 97 ≤ (bt a0 pa)
      ·rw [if_pos c6] at H
       have pe := decide_eq_true c6;clear c6;by_cases c7 : (bt a0 pa) ≤ 122
       ·rw [if_pos c7] at H
        have pf := decide_eq_true c7;clear c7;have H' := Aside0.mk H;clear H;have p4 : 0 ≤ (pa : Int) := of_decide_eq_true as_;have q4 : pa < (a0.size : Int) := of_decide_eq_true as_;have hx4 := bt_at a0 pa;replace p4 := eq_true p4;replace q4 := eq_true q4;go_wp2;go_roundg k1
        case measure => have := HK1.out; omega
        case rel => exact ⟨(wrap64 (pa + 1)), sd_, H', ⟨le1_ HK1.out⟩, dr_⟩
       ·rw [if_neg c7] at H
        have pf := decide_eq_false c7;clear c7;by_cases c8 : 48 ≤ (bt a0 pa)
        ·rw [if_pos c8] at H
         have pg := decide_eq_true c8;clear c8;by_cases c9 : (bt a0 pa) ≤ 57
         ·rw [if_pos c9] at H
          have ph := decide_eq_true c9;clear c9;have H' := Aside0.mk H;clear H;have p4 : 0 ≤ (pa : Int) := of_decide_eq_true as_;have q4 : pa < (a0.size : Int) := of_decide_eq_true as_;have hx4 := bt_at a0 pa;replace p4 := eq_true p4;replace q4 := eq_true q4;go_wp2;go_roundg k1
          case measure => have := HK1.out; omega
          case rel => exact ⟨(wrap64 (pa + 1)), sd_, H', ⟨le1_ HK1.out⟩, dr_⟩
         ·rw [if_neg c9] at H
          have ph := decide_eq_false c9;clear c9;by_cases c10 : (bt a0 pa) = 45
          ·rw [if_pos c10] at H
           have pi := eqb_ c10;have pj := neb_ c10;clear c10;obtain rfl := Option.some.inj H;have p4 : 0 ≤ (pa : Int) := of_decide_eq_true as_;have q4 : pa < (a0.size : Int) := of_decide_eq_true as_;have hx4 := bt_at a0 pa;replace p4 := eq_true p4;replace q4 := eq_true q4;go_wp2;go_ret;exact ⟨sd_, dr_⟩
          ·rw [if_neg c10] at H
           have pi := eqf_ c10;have pj := nef_ c10;obtain rfl := Option.some.inj H;have p4 : 0 ≤ (pa : Int) := of_decide_eq_true as_;have q4 : pa < (a0.size : Int) := of_decide_eq_true as_;have hx4 := bt_at a0 pa;replace p4 := eq_true p4;replace q4 := eq_true q4;go_wp2;go_ret;exact ⟨sd_, dr_⟩
        ·rw [if_neg c8] at H
         have pg := decide_eq_false c8;clear c8;by_cases c11 : (bt a0 pa) = 45
         ·rw [if_pos c11] at H
          have pk := eqb_ c11;have pl := neb_ c11;clear c11;obtain rfl := Option.some.inj H;have p4 : 0 ≤ (pa : Int) := of_decide_eq_true as_;have q4 : pa < (a0.size : Int) := of_decide_eq_true as_;have hx4 := bt_at a0 pa;replace p4 := eq_true p4;replace q4 := eq_true q4;go_wp2;go_ret;exact ⟨sd_, dr_⟩
         ·rw [if_neg c11] at H
          have pk := eqf_ c11;have pl := nef_ c11;obtain rfl := Option.some.inj H;have p4 : 0 ≤ (pa : Int) := of_decide_eq_true as_;have q4 : pa < (a0.size : Int) := of_decide_eq_true as_;have hx4 := bt_at a0 pa;replace p4 := eq_true p4;replace q4 := eq_true q4;go_wp2;go_ret;exact ⟨sd_, dr_⟩
      ·rw [if_neg c6] at H
       have pe := decide_eq_false c6;clear c6;by_cases c12 : 48 ≤ (bt a0 pa)
       ·rw [if_pos c12] at H
        have pm := decide_eq_true c12;clear c12;by_cases c13 : (bt a0 pa) ≤ 57
        ·rw [if_pos c13] at H
         have pn := decide_eq_true c13;clear c13;have H' := Aside0.mk H;clear H;have p4 : 0 ≤ (pa : Int) := of_decide_eq_true as_;have q4 : pa < (a0.size : Int) := of_decide_eq_true as_;have hx4 := bt_at a0 pa;replace p4 := eq_true p4;replace q4 := eq_true q4;go_wp2;go_roundg k1
         case measure => have := HK1.out; omega
         case rel => exact ⟨(wrap64 (pa + 1)), sd_, H', ⟨le1_ HK1.out⟩, dr_⟩
        ·rw [if_neg c13] at H
         have pn := decide_eq_false c13;clear c13;by_cases c14 : (bt a0 pa) = 45
         ·rw [if_pos c14] at H
          have po := eqb_ c14;have pp := neb_ c14;clear c14;obtain rfl := Option.some.inj H;have p4 : 0 ≤ (pa : Int) := of_decide_eq_true as_;have q4 : pa < (a0.size : Int) := of_decide_eq_true as_;have hx4 := bt_at a0 pa;replace p4 := eq_true p4;replace q4 := eq_true q4;go_wp2;go_ret;exact ⟨sd_, dr_⟩
         ·rw [if_neg c14] at H
          have po := eqf_ c14;have pp := nef_ c14;obtain rfl := Option.some.inj H;have p4 : 0 ≤ (pa : Int) := of_decide_eq_true as_;have q4 : pa < (a0.size : Int) := of_decide_eq_true as_;have hx4 := bt_at a0 pa;replace p4 := eq_true p4;replace q4 := eq_true q4;go_wp2;go_ret;exact ⟨sd_, dr_⟩
       ·rw [if_neg c12] at H
        have pm := decide_eq_false c12;clear c12;by_cases c15 : (bt a0 pa) = 45
        ·rw [if_pos c15] at H
         have pq := eqb_ c15;have pr := neb_ c15;clear c15;obtain rfl := Option.some.inj H;have p4 : 0 ≤ (pa : Int) := of_decide_eq_true as_;have q4 : pa < (a0.size : Int) := of_decide_eq_true as_;have hx4 := bt_at a0 pa;replace p4 := eq_true p4;replace q4 := eq_true q4;go_wp2;go_ret;exact ⟨sd_, dr_⟩
        ·rw [if_neg c15] at H
         have pq := eqf_ c15;have pr := nef_ c15;obtain rfl := Option.some.inj H;have p4 : 0 ≤ (pa : Int) := of_decide_eq_true as_;have q4 : pa < (a0.size : Int) := of_decide_eq_true as_;have hx4 := bt_at a0 pa;replace p4 := eq_true p4;replace q4 := eq_true q4;go_wp2;go_ret;exact ⟨sd_, dr_⟩
     ·rw [if_neg c5] at H
      have pc := eqf_ c5;have pd := nef_ c5;by_cases c16 : 97 ≤ (bt a0 pa)
      ·rw [if_pos c16] at H
       have ps := decide_eq_true c16;clear c16;by_cases c17 : (bt a0 pa) ≤ 122
       ·rw [if_pos c17] at H
        have pt := decide_eq_true c17;clear c17;have H' := Aside0.mk H;clear H;have p4 : 0 ≤ (pa : Int) := of_decide_eq_true as_;have q4 : pa < (a0.size : Int) := of_decide_eq_true as_;have hx4 := bt_at a0 pa;replace p4 := eq_true p4;replace q4 := eq_true q4;go_wp2;go_roundg k1
        case measure => have := HK1.out; omega
        case rel => exact ⟨(wrap64 (pa + 1)), sd_, H', ⟨le1_ HK1.out⟩, dr_⟩
       ·rw [if_neg c17] at H
        have pt := decide_eq_false c17;clear c17;by_cases c18 : 48 ≤ (bt a0 pa)
        ·rw [if_pos c18] at H
         have pu := decide_eq_true c18;clear c18;by_cases c19 : (bt a0 pa) ≤ 57
         ·rw [if_pos c19] at H
          have pv := decide_eq_true c19;clear c19;have H' := Aside0.mk H;clear H;have p4 : 0 ≤ (pa : Int) := of_decide_eq_true as_;have q4 : pa < (a0.size : Int) := of_decide_eq_true as_;have hx4 := bt_at a0 pa;replace p4 := eq_true p4;replace q4 := eq_true q4;go_wp2;go_roundg k1
          case measure => have := HK1.out; omega
          case rel => exact ⟨(wrap64 (pa + 1)), sd_, H', ⟨le1_ HK1.out⟩, dr_⟩
         ·rw [if_neg c19] at H
          have pv := decide_eq_false c19;clear c19;by_cases c20 : (bt a0 pa) = 45
          ·rw [if_pos c20] at H
           have pw := eqb_ c20;have px := neb_ c20;clear c20;by_cases c21 : (pa = (wrap64 ((a0.size : Int) - 1)))
           ·rw [if_pos c21] at H
            have pz := eqb_ c21;have pA := neb_ c21;clear c21;obtain rfl := Option.some.inj H;have p4 : 0 ≤ (pa : Int) := of_decide_eq_true as_;have q4 : pa < (a0.size : Int) := of_decide_eq_true as_;have hx4 := bt_at a0 pa;replace p4 := eq_true p4;replace q4 := eq_true q4;go_wp2;go_ret;exact ⟨sd_, dr_⟩
           ·rw [if_neg c21] at H
            have pz := eqf_ c21;have pA := nef_ c21;have H' := Aside0.mk H;clear H;have p4 : 0 ≤ (pa : Int) := of_decide_eq_true as_;have q4 : pa < (a0.size : Int) := of_decide_eq_true as_;have hx4 := bt_at a0 pa;replace p4 := eq_true p4;replace q4 := eq_true q4;go_wp2;go_roundg k1
            case measure => have := HK1.out; omega
            case rel => exact ⟨(wrap64 (pa + 1)), sd_, H', ⟨le1_ HK1.out⟩, dr_⟩
          ·rw [if_neg c20] at H
           have pw := eqf_ c20;have px := nef_ c20;obtain rfl := Option.some.inj H;have p4 : 0 ≤ (pa : Int) := of_decide_eq_true as_;have q4 : pa < (a0.size : Int) := of_decide_eq_true as_;have hx4 := bt_at a0 pa;replace p4 := eq_true p4;replace q4 := eq_true q4;go_wp2;go_ret;exact ⟨sd_, dr_⟩
        ·rw [if_neg c18] at H
         have pu := decide_eq_false c18;clear c18;by_cases c22 : (bt a0 pa) = 45
         ·rw [if_pos c22] at H
          have pB := eqb_ c22;have pC := neb_ c22;clear c22;by_cases c23 : (pa = (wrap64 ((a0.size : Int) - 1)))
          ·rw [if_pos c23] at H
           have pD := eqb_ c23;have pE := neb_ c23;clear c23;obtain rfl := Option.some.inj H;have p4 : 0 ≤ (pa : Int) := of_decide_eq_true as_;have q4 : pa < (a0.size : Int) := of_decide_eq_true as_;have hx4 := bt_at a0 pa;replace p4 := eq_true p4;replace q4 := eq_true q4;go_wp2;go_ret;exact ⟨sd_, dr_⟩
          ·rw [if_neg c23] at H
           have pD := eqf_ c23;have pE := nef_ c23;have H' := Aside0.mk H;clear H;have p4 : 0 ≤ (pa : Int) := of_decide_eq_true as_;have q4 : pa < (a0.size : Int) := of_decide_eq_true as_;have hx4 := bt_at a0 pa;replace p4 := eq_true p4;replace q4 := eq_true q4;go_wp2;go_roundg k1
           case measure => have := HK1.out; omega
           case rel => exact ⟨(wrap64 (pa + 1)), sd_, H', ⟨le1_ HK1.out⟩, dr_⟩
         ·rw [if_neg c22] at H
          have pB := eqf_ c22;have pC := nef_ c22;obtain rfl := Option.some.inj H;have p4 : 0 ≤ (pa : Int) := of_decide_eq_true as_;have q4 : pa < (a0.size : Int) := of_decide_eq_true as_;have hx4 := bt_at a0 pa;replace p4 := eq_true p4;replace q4 := eq_true q4;go_wp2;go_ret;exact ⟨sd_, dr_⟩
      ·rw [if_neg c16] at H
       have ps := decide_eq_false c16;clear c16;by_cases c24 : 48 ≤ (bt a0 pa)
       ·rw [if_pos c24] at H
        have pF := decide_eq_true c24;clear c24;by_cases c25 : (bt a0 pa) ≤ 57
        ·rw [if_pos c25] at H
         have pG := decide_eq_true c25;clear c25;have H' := Aside0.mk H;clear H;have p4 : 0 ≤ (pa : Int) := of_decide_eq_true as_;have q4 : pa < (a0.size : Int) := of_decide_eq_true as_;have hx4 := bt_at a0 pa;replace p4 := eq_true p4;replace q4 := eq_true q4;go_wp2;go_roundg k1
         case measure => have := HK1.out; omega
         case rel => exact ⟨(wrap64 (pa + 1)), sd_, H', ⟨le1_ HK1.out⟩, dr_⟩
        ·rw [if_neg c25] at H
         have pG := decide_eq_false c25;clear c25;by_cases c26 : (bt a0 pa) = 45
         ·rw [if_pos c26] at H
          have pH := eqb_ c26;have pI := neb_ c26;clear c26;by_cases c27 : (pa = (wrap64 ((a0.size : Int) - 1)))
          ·rw [if_pos c27] at H
           have pJ := eqb_ c27;have pK := neb_ c27;clear c27;obtain rfl := Option.some.inj H;have p4 : 0 ≤ (pa : Int) := of_decide_eq_true as_;have q4 : pa < (a0.size : Int) := of_decide_eq_true as_;have hx4 := bt_at a0 pa;replace p4 := eq_true p4;replace q4 := eq_true q4;go_wp2;go_ret;exact ⟨sd_, dr_⟩
          ·rw [if_neg c27] at H
           have pJ := eqf_ c27;have pK := nef_ c27;have H' := Aside0.mk H;clear H;have p4 : 0 ≤ (pa : Int) := of_decide_eq_true as_;have q4 : pa < (a0.size : Int) := of_decide_eq_true as_;have hx4 := bt_at a0 pa;replace p4 := eq_true p4;replace q4 := eq_true q4;go_wp2;go_roundg k1
           case measure => have := HK1.out; omega
           case rel => exact ⟨(wrap64 (pa + 1)), sd_, H', ⟨le1_ HK1.out⟩, dr_⟩
         ·rw [if_neg c26] at H
          have pH := eqf_ c26;have pI := nef_ c26;obtain rfl := Option.some.inj H;have p4 : 0 ≤ (pa : Int) := of_decide_eq_true as_;have q4 : pa < (a0.size : Int) := of_decide_eq_true as_;have hx4 := bt_at a0 pa;replace p4 := eq_true p4;replace q4 := eq_true q4;go_wp2;go_ret;exact ⟨sd_, dr_⟩
       ·rw [if_neg c24] at H
        have pF := decide_eq_false c24;clear c24;by_cases c28 : (bt a0 pa) = 45
        ·rw [if_pos c28] at H
         have pL := eqb_ c28;have pM := neb_ c28;clear c28;by_cases c29 : (pa = (wrap64 ((a0.size : Int) - 1)))
         ·rw [if_pos c29] at H
          have pN := eqb_ c29;have pO := neb_ c29;clear c29;obtain rfl := Option.some.inj H;have p4 : 0 ≤ (pa : Int) := of_decide_eq_true as_;have q4 : pa < (a0.size : Int) := of_decide_eq_true as_;have hx4 := bt_at a0 pa;replace p4 := eq_true p4;replace q4 := eq_true q4;go_wp2;go_ret;exact ⟨sd_, dr_⟩
         ·rw [if_neg c29] at H
          have pN := eqf_ c29;have pO := nef_ c29;have H' := Aside0.mk H;clear H;have p4 : 0 ≤ (pa : Int) := of_decide_eq_true as_;have q4 : pa < (a0.size : Int) := of_decide_eq_true as_;have hx4 := bt_at a0 pa;replace p4 := eq_true p4;replace q4 := eq_true q4;go_wp2;go_roundg k1
          case measure => have := HK1.out; omega
          case rel => exact ⟨(wrap64 (pa + 1)), sd_, H', ⟨le1_ HK1.out⟩, dr_⟩
        ·rw [if_neg c28] at H
         have pL := eqf_ c28;have pM := nef_ c28;obtain rfl := Option.some.inj H;have p4 : 0 ≤ (pa : Int) := of_decide_eq_true as_;have q4 : pa < (a0.size : Int) := of_decide_eq_true as_;have hx4 := bt_at a0 pa;replace p4 := eq_true p4;replace q4 := eq_true q4;go_wp2;go_ret;exact ⟨sd_, dr_⟩
    ·rw [if_neg c3] at H
     cases H
   ·rw [if_neg c2] at H
    have pb := decide_eq_false c2;clear c2;by_cases c30 : 1 ≤ (a0.size : Int)
    ·rw [if_pos c30] at H
     have pP := decide_eq_true c30;have pQ : decide (1 ≤ a0.size) = true := decide_eq_true (by omega);clear c30;obtain rfl := Option.some.inj H;go_wp2;go_ret;exact ⟨sd_, dr_⟩
    ·rw [if_neg c30] at H
     have pP := decide_eq_false c30;have pQ : decide (1 ≤ a0.size) = false := decide_eq_false (by omega);clear c30;obtain rfl := Option.some.inj H;go_wp2;go_ret;exact ⟨sd_, dr_⟩

/-! ### tollref01_Name: function 56 -/
def tollref01_Name.l0 : Nat → List ByteArray → Int → Option (Bool)
 | 0, _, _ => none
 | k + 1, x3, x4 => if x4 < (x3.length : Int) then (if 0 ≤ x4 then ((tollref01_Label.f k (rdOf ByteArray.empty x3 x4)).bind fun t152 => (if t152 = true then (tollref01_Name.l0 k x3 (wrap64 (x4 + 1))) else (some false))) else (none)) else (some true)
def tollref01_Name.f (k : Nat) (a0 : ByteArray) : Option (Bool) := if (a0.size : Int) > 60 then (some false) else ((tollref01_Split.f k a0 46).bind fun t148 => (tollref01_Name.l0 k t148 0))
theorem tollref01_Name.mono_l : ∀ k, (∀ y0 y1, LeO (tollref01_Name.l0 k y0 y1) (tollref01_Name.l0 (k + 1) y0 y1))
 | 0 => fun _ _ r h => by simp [tollref01_Name.l0] at h
 | k + 1 => by
  have ih0 := tollref01_Name.mono_l k
  ·intro y0 y1
   unfold tollref01_Name.l0
   repeat' with_reducible first | apply ih0 | apply tollref01_Label.mono | apply tollref01_Split.mono | apply LeO.refl | apply LeO.none | apply LeO.ite | refine LeO.bind ?_ fun _ => ?_
theorem tollref01_Name.mono : ∀ a0 k, LeO (tollref01_Name.f k a0) (tollref01_Name.f (k + 1) a0) := by
 intro a0 k
 have ih0 := tollref01_Name.mono_l k
 unfold tollref01_Name.f
 repeat' with_reducible first | apply ih0 | apply tollref01_Label.mono | apply tollref01_Split.mono | apply LeO.refl | apply LeO.none | apply LeO.ite | refine LeO.bind ?_ fun _ => ?_
set_option maxHeartbeats 8000000 in
set_option maxRecDepth 100000 in
theorem tollref01_Name.calls (k : Nat) (a0 : ByteArray) (r : Bool) (w : World) (h : tollref01_Name.f k a0 = some r) :
  Calls Tryz.prog 56 #[.string a0] w fun e w' => e = .returned (.bool r) ∧ Below w.heap.size w w' := by
 have HB := am_ (Below.refl w.heap.size w);have H : (if (a0.size : Int) > 60 then (some false) else ((tollref01_Split.f k a0 46).bind fun pb => (tollref01_Name.l0 k pb 0))) = some r := h;clear h;by_cases c2 : (a0.size : Int) > 60
 ·rw [if_pos c2] at H
  have pd := decide_eq_true c2;have pe : decide (60 < a0.size) = true := decide_eq_true (by omega);clear c2;obtain rfl := Option.some.inj H;go_enter Tryz.func56, Tryz.ntmps56;go_wp2;go_ret;exact ⟨fi_, bel_ HB.out⟩
 ·rw [if_neg c2] at H
  have pd := decide_eq_false c2;have pe : decide (60 < a0.size) = false := decide_eq_false (by omega);clear c2;obtain ⟨pb, A3, H⟩ := bnd_ H;have H' := Aside0.mk H;clear H;go_enter Tryz.func56, Tryz.ntmps56;go_wp2_with (first | ((with_reducible refine gate_callee (f := 81) rfl ?_); refine goesL_ (some 9) rfl rfl Tryz.func81 kr_ rfl #[.string a0, .int .u8 46] rfl rl_ ?_; (with_reducible refine (tollref01_Split.calls k a0 46 pb _ A3.out).mono ?_); rintro e w4 ⟨pf, rfl, ho0, hb⟩; refine ⟨_, rfl, ?_⟩; have pg := am_ (Kd.R_lower ho0 (below_size (bel_ HB.out))); replace HB := bs_ HB hb; (try clear hb ho0)));go_loopg [4] k (fun kq v4 w' => ∃ (pa : Int), v4 = .int .i64 pa ∧ Aside0 (tollref01_Name.l0 kq pb pa = some r) ∧ Aside0 (kq ≤ k) ∧ Aside0 (Kd.R Kd.string 9 w' w.heap.size (fun _ => True) pf pb) ∧ Aside0 (Below w.heap.size w w'))
  case atStart => exact ⟨(0), sd_, H', ⟨Nat.le_refl _⟩, ⟨R_ pg.out⟩, ⟨bel_ HB.out⟩⟩
  case round =>
   clear H';try clear pd pe
   obtain ⟨pa, rfl, HA, HK1, pc, HB⟩ := hrel;cases gk with
   | zero => exact absurd HA.out (by simp [tollref01_Name.l0])
   | succ k1 =>
    have H := HA.out;clear HA;simp only [tollref01_Name.l0] at H;by_cases c5 : pa < (pb.length : Int)
    ·rw [if_pos c5] at H
     have ph := decide_eq_true c5;clear c5;by_cases c6 : 0 ≤ pa
     ·rw [if_pos c6] at H
      have pl := decide_eq_true c6;clear c6;obtain ⟨pi, A7, H⟩ := bnd_ H;by_cases c8 : pi = true
      ·subst c8
       replace H := ift_ H;have H' := Aside0.mk H;clear H;obtain ⟨pm, pn, eo9⟩ := Kd.R_slice pc.out;subst eo9;have p151 : 0 ≤ (pa : Int) := of_decide_eq_true as_;have q151 : pa < (pb.length : Int) := of_decide_eq_true as_;obtain ⟨pj, e151, pk⟩ := Kd.at_string (Kd.R_reads' pc.out).2.2 pa p151 q151;cases e151
       replace p151 := eq_true p151;replace q151 := eq_true q151;go_wp2_with (first | ((with_reducible refine gate_callee (f := 82) rfl ?_); refine goesL_ (some 20) rfl rfl Tryz.func82 kr_ rfl #[.string (rdOf ByteArray.empty pb pa)] rfl rl_ ?_; (with_reducible refine (tollref01_Label.calls k1 (rdOf ByteArray.empty pb pa) true _ A7.out).mono ?_); rintro e w' ⟨rfl, ⟨nd, rfl⟩⟩; refine ⟨_, rfl, ?_⟩));go_roundg k1
       case measure => have := HK1.out; omega
       case rel => exact ⟨(wrap64 (pa + 1)), sd_, H', ⟨le1_ HK1.out⟩, ⟨R_ pc.out⟩, ⟨bel_ HB.out⟩⟩
      ·replace c8 := Bool.eq_false_iff.mpr c8
       subst c8;replace H := iff_ H;obtain rfl := Option.some.inj H;obtain ⟨po, pp, eo10⟩ := Kd.R_slice pc.out;subst eo10;have p151 : 0 ≤ (pa : Int) := of_decide_eq_true as_;have q151 : pa < (pb.length : Int) := of_decide_eq_true as_;obtain ⟨pj, e151, pk⟩ := Kd.at_string (Kd.R_reads' pc.out).2.2 pa p151 q151;cases e151
       replace p151 := eq_true p151;replace q151 := eq_true q151;go_wp2_with (first | ((with_reducible refine gate_callee (f := 82) rfl ?_); refine goesL_ (some 20) rfl rfl Tryz.func82 kr_ rfl #[.string (rdOf ByteArray.empty pb pa)] rfl rl_ ?_; (with_reducible refine (tollref01_Label.calls k1 (rdOf ByteArray.empty pb pa) false _ A7.out).mono ?_); rintro e w' ⟨rfl, ⟨nd, rfl⟩⟩; refine ⟨_, rfl, ?_⟩));go_ret;exact ⟨fi_, bel_ HB.out⟩
     ·rw [if_neg c6] at H
      cases H
    ·rw [if_neg c5] at H
     have ph := decide_eq_false c5;clear c5;obtain rfl := Option.some.inj H;obtain ⟨pq, pr, eo11⟩ := Kd.R_slice pc.out;subst eo11;go_wp2;go_ret;exact ⟨fi_, bel_ HB.out⟩

end Go.Proofs.YtfdopmjgiakcdaaGreatDoor.P
