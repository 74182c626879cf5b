-- written by wip/tool/hprint.py of this repo: the kit's print, with contracts by hand joined; Lean checks it.
import Derived.Test.YtfdopmjgiakcdaaGreatDoorPx0
import Derived.Test.YtfdopmjgiakcdaaGreatDoorPx14
namespace Go.Proofs.YtfdopmjgiakcdaaGreatDoor.P
open Go.RowKit Go.Proofs.YtfdopmjgiakcdaaGreatDoorW.PrintWords Go.Proofs.YtfdopmjgiakcdaaGreatDoorW.PrintLast Go.Proofs.YtfdopmjgiakcdaaGreatDoorW.PrintMore
attribute [local go_sem] max2_int min2_int max_two min_two max_three min_three max_four min_four   -- for this text's walks alone
set_option linter.unusedVariables false
set_option linter.unusedSimpArgs false

/-! ### tollref03_Is: function 57 -/
mutual
def tollref03_Is.j0 : Nat → ByteArray → Bool → Option (Bool)
 | 0, _, _ => none
 | k + 1, x0, x16 => if x16 = true then (some false) else (tollref03_Is.l0 k x0 0)
def tollref03_Is.l0 : Nat → ByteArray → Int → Option (Bool)
 | 0, _, _ => none
 | k + 1, x0, x3 => if x3 < (x0.size : Int) then (if 0 ≤ x3 then (if (bt x0 x3) < 33 then (some false) else (if (bt x0 x3) > 126 then (some false) else (if (bt x0 x3) = 63 then (some false) else (if (bt x0 x3) = 35 then (some false) else (tollref03_Is.l0 k x0 (wrap64 (x3 + 1))))))) else (none)) else (some true)
end
def tollref03_Is.f (k : Nat) (a0 : ByteArray) : Option (Bool) := if (a0.size : Int) < 1 then (tollref03_Is.j0 k a0 true) else (if (a0.size : Int) > 60 then (tollref03_Is.j0 k a0 true) else (if 0 < (a0.size : Int) then (tollref03_Is.j0 k a0 ((bt a0 0) != 47)) else (none)))
theorem tollref03_Is.mono_l : ∀ k, (∀ y0 y1, LeO (tollref03_Is.j0 k y0 y1) (tollref03_Is.j0 (k + 1) y0 y1)) ∧ (∀ y0 y1, LeO (tollref03_Is.l0 k y0 y1) (tollref03_Is.l0 (k + 1) y0 y1))
 | 0 => ⟨fun _ _ r h => by simp [tollref03_Is.j0] at h, fun _ _ r h => by simp [tollref03_Is.l0] at h⟩
 | k + 1 => by
  obtain ⟨ih0, ih1⟩ := tollref03_Is.mono_l k
  refine ⟨?_, ?_⟩
  ·intro y0 y1
   unfold tollref03_Is.j0
   repeat' with_reducible first | apply ih0 | apply ih1 | apply LeO.refl | apply LeO.none | apply LeO.ite | refine LeO.bind ?_ fun _ => ?_
  ·intro y0 y1
   unfold tollref03_Is.l0
   repeat' with_reducible first | apply ih0 | apply ih1 | apply LeO.refl | apply LeO.none | apply LeO.ite | refine LeO.bind ?_ fun _ => ?_
theorem tollref03_Is.mono : ∀ a0 k, LeO (tollref03_Is.f k a0) (tollref03_Is.f (k + 1) a0) := by
 intro a0 k
 obtain ⟨ih0, ih1⟩ := tollref03_Is.mono_l k
 unfold tollref03_Is.f
 repeat' with_reducible first | apply ih0 | apply ih1 | apply LeO.refl | apply LeO.none | apply LeO.ite | refine LeO.bind ?_ fun _ => ?_
set_option maxHeartbeats 8000000 in
set_option maxRecDepth 100000 in
theorem tollref03_Is.calls (k : Nat) (a0 : ByteArray) (r : Bool) (w : World) (h : tollref03_Is.f k a0 = some r) :
  Calls Tryz.prog 57 #[.string a0] w fun e w' => e = .returned (.bool r) ∧ Drawn0 w w' := by
 have H : (if (a0.size : Int) < 1 then (tollref03_Is.j0 k a0 true) else (if (a0.size : Int) > 60 then (tollref03_Is.j0 k a0 true) else (if 0 < (a0.size : Int) then (tollref03_Is.j0 k a0 ((bt a0 0) != 47)) else (none)))) = some r := h;clear h;have HC2 := Aside0.mk H;clear H;go_enter Tryz.func57, Tryz.ntmps57;go_upto_region 1 with (fail)
 go_cut [16] (fun pe wc => ∃ (kq : Nat) (pc : Bool), pe = .bool pc ∧ Aside0 (tollref03_Is.j0 kq a0 pc = some r) ∧ Aside0 (kq ≤ k) ∧ Drawn0 w wc)
 case first =>
  have H := HC2.out;clear HC2;by_cases c3 : (a0.size : Int) < 1
  ·rw [if_pos c3] at H
   have pb := decide_eq_true c3;have pd : decide (a0.size < 1) = true := decide_eq_true (by omega);clear c3;(first | rw [pb] | rw [pd] | rw [pf] | (simp only [i64_w, i32_w]; rw [pb]) | skip);have H' := Aside0.mk H;clear H;go_wp2;go_meet
   case rel => exact ⟨_, (true), sd_, H', ⟨le_⟩, dr_⟩
  ·rw [if_neg c3] at H
   have pb := decide_eq_false c3;have pd : decide (a0.size < 1) = false := decide_eq_false (by omega);clear c3;(first | rw [pb] | rw [pd] | rw [pf] | (simp only [i64_w, i32_w]; rw [pb]) | skip);by_cases c4 : (a0.size : Int) > 60
   ·rw [if_pos c4] at H
    have pg := decide_eq_true c4;have ph : decide (60 < a0.size) = true := decide_eq_true (by omega);clear c4;have H' := Aside0.mk H;clear H;go_wp2;go_meet
    case rel => exact ⟨_, (true), sd_, H', ⟨le_⟩, dr_⟩
   ·rw [if_neg c4] at H
    have pg := decide_eq_false c4;have ph : decide (60 < a0.size) = false := decide_eq_false (by omega);clear c4;by_cases c5 : 0 < (a0.size : Int)
    ·rw [if_pos c5] at H
     have pp := decide_eq_true c5;have pq : decide (0 < a0.size) = true := decide_eq_true (by omega);clear c5;have H' := Aside0.mk H;clear H;have p6 : 0 ≤ (0 : Int) := (by omega);have q6 : 0 < a0.size := (by have : (0 : Int) < (a0.size : Int) := of_decide_eq_true as_; omega);have hx6 : ∀ h : 0 < a0.size, ((a0[0]'h).toNat : Int) = bt a0 0 := bt_at a0 0;clear p6;have pr : (0 < (a0.size : Int)) = True := eq_true (of_decide_eq_true as_);replace q6 := eq_true q6;go_wp2;go_meet
     case rel => exact ⟨_, (((bt a0 0) != 47)), sd_, H', ⟨le_⟩, dr_⟩
    ·rw [if_neg c5] at H
     cases H
 case rest =>
  clear HC2;obtain ⟨kq, pc, rfl, HA, HJ1, ⟨mc1, rfl⟩⟩ := hcut;cases kq with
  | zero => exact absurd HA.out (by simp [tollref03_Is.j0])
  | succ kj1 =>
   have H := HA.out;clear HA;simp only [tollref03_Is.j0] at H;by_cases c7 : pc = true
   ·subst c7
    replace H := ift_ H;obtain rfl := Option.some.inj H;go_wp2;go_ret;exact ⟨sd_, dr_⟩
   ·replace c7 := Bool.eq_false_iff.mpr c7
    subst c7;replace H := iff_ H;have H' := Aside0.mk H;clear H;go_wp2;go_loopg [3] kj1 (fun kq v3 w' => ∃ (pa : Int), v3 = .int .i64 pa ∧ Aside0 (tollref03_Is.l0 kq a0 pa = some r) ∧ Aside0 (kq ≤ kj1) ∧ Drawn0 w w')
    case atStart => exact ⟨(0), sd_, H', ⟨Nat.le_refl _⟩, dr_⟩
    case round =>
     clear H';try clear c7
     obtain ⟨pa, rfl, HA, HK2, ⟨m2, rfl⟩⟩ := hrel;cases gk with
     | zero => exact absurd HA.out (by simp [tollref03_Is.l0])
     | succ k2 =>
      have H := HA.out;clear HA;simp only [tollref03_Is.l0] at H;by_cases c8 : pa < (a0.size : Int)
      ·rw [if_pos c8] at H
       have pi := decide_eq_true c8;clear c8;by_cases c9 : 0 ≤ pa
       ·rw [if_pos c9] at H
        have ps := decide_eq_true c9;clear c9;by_cases c11 : (bt a0 pa) < 33
        ·rw [if_pos c11] at H
         have pj := decide_eq_true c11;clear c11;obtain rfl := Option.some.inj H;have p10 : 0 ≤ (pa : Int) := of_decide_eq_true as_;have q10 : pa < (a0.size : Int) := of_decide_eq_true as_;have hx10 := bt_at a0 pa;replace p10 := eq_true p10;replace q10 := eq_true q10;go_wp2;go_ret;exact ⟨sd_, dr_⟩
        ·rw [if_neg c11] at H
         have pj := decide_eq_false c11;clear c11;by_cases c13 : (bt a0 pa) > 126
         ·rw [if_pos c13] at H
          have pk := decide_eq_true c13;clear c13;obtain rfl := Option.some.inj H;have p10 : 0 ≤ (pa : Int) := of_decide_eq_true as_;have q10 : pa < (a0.size : Int) := of_decide_eq_true as_;have hx10 := bt_at a0 pa;replace p10 := eq_true p10;replace q10 := eq_true q10;have p12 : 0 ≤ (pa : Int) := of_decide_eq_true as_;have q12 : pa < (a0.size : Int) := of_decide_eq_true as_;have hx12 := bt_at a0 pa;replace p12 := eq_true p12;replace q12 := eq_true q12;go_wp2;go_ret;exact ⟨sd_, dr_⟩
         ·rw [if_neg c13] at H
          have pk := decide_eq_false c13;clear c13;by_cases c15 : (bt a0 pa) = 63
          ·rw [if_pos c15] at H
           have pl := eqb_ c15;have pm := neb_ c15;clear c15;obtain rfl := Option.some.inj H;have p10 : 0 ≤ (pa : Int) := of_decide_eq_true as_;have q10 : pa < (a0.size : Int) := of_decide_eq_true as_;have hx10 := bt_at a0 pa;replace p10 := eq_true p10;replace q10 := eq_true q10;have p12 : 0 ≤ (pa : Int) := of_decide_eq_true as_;have q12 : pa < (a0.size : Int) := of_decide_eq_true as_;have hx12 := bt_at a0 pa;replace p12 := eq_true p12;replace q12 := eq_true q12;have p14 : 0 ≤ (pa : Int) := of_decide_eq_true as_;have q14 : pa < (a0.size : Int) := of_decide_eq_true as_;have hx14 := bt_at a0 pa;replace p14 := eq_true p14;replace q14 := eq_true q14;go_wp2;go_ret;exact ⟨sd_, dr_⟩
          ·rw [if_neg c15] at H
           have pl := eqf_ c15;have pm := nef_ c15;by_cases c17 : (bt a0 pa) = 35
           ·rw [if_pos c17] at H
            have pn := eqb_ c17;have po := neb_ c17;clear c17;obtain rfl := Option.some.inj H;have p10 : 0 ≤ (pa : Int) := of_decide_eq_true as_;have q10 : pa < (a0.size : Int) := of_decide_eq_true as_;have hx10 := bt_at a0 pa;replace p10 := eq_true p10;replace q10 := eq_true q10;have p12 : 0 ≤ (pa : Int) := of_decide_eq_true as_;have q12 : pa < (a0.size : Int) := of_decide_eq_true as_;have hx12 := bt_at a0 pa;replace p12 := eq_true p12;replace q12 := eq_true q12;have p14 : 0 ≤ (pa : Int) := of_decide_eq_true as_;have q14 : pa < (a0.size : Int) := of_decide_eq_true as_;have hx14 := bt_at a0 pa;replace p14 := eq_true p14;replace q14 := eq_true q14;have p16 : 0 ≤ (pa : Int) := of_decide_eq_true as_;have q16 : pa < (a0.size : Int) := of_decide_eq_true as_;have hx16 := bt_at a0 pa;replace p16 := eq_true p16;replace q16 := eq_true q16;go_wp2;go_ret;exact ⟨sd_, dr_⟩
           ·rw [if_neg c17] at H
            have pn := eqf_ c17;have po := nef_ c17;have H' := Aside0.mk H;clear H;have p10 : 0 ≤ (pa : Int) := of_decide_eq_true as_;have q10 : pa < (a0.size : Int) := of_decide_eq_true as_;have hx10 := bt_at a0 pa;replace p10 := eq_true p10;replace q10 := eq_true q10;have p12 : 0 ≤ (pa : Int) := of_decide_eq_true as_;have q12 : pa < (a0.size : Int) := of_decide_eq_true as_;have hx12 := bt_at a0 pa;replace p12 := eq_true p12;replace q12 := eq_true q12;have p14 : 0 ≤ (pa : Int) := of_decide_eq_true as_;have q14 : pa < (a0.size : Int) := of_decide_eq_true as_;have hx14 := bt_at a0 pa;replace p14 := eq_true p14;replace q14 := eq_true q14;have p16 : 0 ≤ (pa : Int) := of_decide_eq_true as_;have q16 : pa < (a0.size : Int) := of_decide_eq_true as_;have hx16 := bt_at a0 pa;replace p16 := eq_true p16;replace q16 := eq_true q16;go_wp2;go_roundg k2
            case measure => have := HJ1.out; have := HK2.out; omega
            case rel => exact ⟨(wrap64 (pa + 1)), sd_, H', ⟨le2_ HJ1.out HK2.out⟩, dr_⟩
       ·rw [if_neg c9] at H
        cases H
      ·rw [if_neg c8] at H
       have pi := decide_eq_false c8;clear c8;obtain rfl := Option.some.inj H;go_wp2;go_ret;exact ⟨sd_, dr_⟩

/-! ### tollref03_Above: function 58 -/
def tollref03_Above.f (k : Nat) (a0 : ByteArray) : Option (Bool) := (tollref03_Is.f k a0).bind fun t153 => (if t153 = true then (if (a0.size : Int) = 1 then (some true) else (if 0 ≤ (wrap64 ((a0.size : Int) - 1)) then (if (wrap64 ((a0.size : Int) - 1)) < (a0.size : Int) then (some ((bt a0 (wrap64 ((a0.size : Int) - 1))) != 47)) else (none)) else (none))) else (some false))
theorem tollref03_Above.mono : ∀ a0 k, LeO (tollref03_Above.f k a0) (tollref03_Above.f (k + 1) a0) := by
 intro a0 k
 unfold tollref03_Above.f
 repeat' with_reducible first | apply tollref03_Is.mono | apply LeO.refl | apply LeO.none | apply LeO.ite | refine LeO.bind ?_ fun _ => ?_
set_option maxHeartbeats 8000000 in
set_option maxRecDepth 100000 in
theorem tollref03_Above.calls (k : Nat) (a0 : ByteArray) (r : Bool) (w : World) (h : tollref03_Above.f k a0 = some r) :
  Calls Tryz.prog 58 #[.string a0] w fun e w' => e = .returned (.bool r) ∧ Drawn0 w w' := by
 have H : ((tollref03_Is.f k a0).bind fun pb => (if pb = true then (if (a0.size : Int) = 1 then (some true) else (if 0 ≤ (wrap64 ((a0.size : Int) - 1)) then (if (wrap64 ((a0.size : Int) - 1)) < (a0.size : Int) then (some ((bt a0 (wrap64 ((a0.size : Int) - 1))) != 47)) else (none)) else (none))) else (some false))) = some r := h;clear h;obtain ⟨pb, A2, H⟩ := bnd_ H;by_cases c3 : pb = true
 ·subst c3
  replace H := ift_ H;by_cases c4 : (a0.size : Int) = 1
  ·rw [if_pos c4] at H
   have pc := eqb_ c4;have pd := neb_ c4;clear c4;obtain rfl := Option.some.inj H;go_enter Tryz.func58, Tryz.ntmps58;go_wp2_with (first | ((with_reducible refine gate_callee (f := 57) rfl ?_); refine goesL_ (some 4) rfl rfl Tryz.func57 kr_ rfl #[.string a0] rfl rl_ ?_; (with_reducible refine (tollref03_Is.calls k a0 true _ A2.out).mono ?_); rintro e w' ⟨rfl, ⟨nd, rfl⟩⟩; refine ⟨_, rfl, ?_⟩));go_ret;exact ⟨sd_, dr_⟩
  ·rw [if_neg c4] at H
   have pc := eqf_ c4;have pd := nef_ c4;obtain ⟨ji5, pa⟩ : ∃ j_ : Int, (wrap64 ((a0.size : Int) - 1)) = j_ := ⟨_, rfl⟩;replace H : (if 0 ≤ (ji5) then (if (ji5) < (a0.size : Int) then (some ((bt a0 (ji5)) != 47)) else (none)) else (none)) = some r := by first | (rw [pa] at H; exact H) | (simp only [pa] at H ⊢; exact H)
   (try rw [pa] at A2);have hji5w : (IntKind.i64.wrap ((a0.size : Int) - 1)) = ji5 := (i64_w _).trans pa;by_cases c6 : 0 ≤ (ji5)
   ·rw [if_pos c6] at H
    have pe := decide_eq_true c6;clear c6;by_cases c7 : (ji5) < (a0.size : Int)
    ·rw [if_pos c7] at H
     have pf := decide_eq_true c7;clear c7;obtain rfl := Option.some.inj H;go_enter Tryz.func58, Tryz.ntmps58;go_wp2_with (first | ((with_reducible refine gate_callee (f := 57) rfl ?_); refine goesL_ (some 4) rfl rfl Tryz.func57 kr_ rfl #[.string a0] rfl rl_ ?_; (with_reducible refine (tollref03_Is.calls k a0 true _ A2.out).mono ?_); rintro e w' ⟨rfl, ⟨nd, rfl⟩⟩; refine ⟨_, rfl, ?_⟩; have p8 : 0 ≤ ((ji5) : Int) := of_decide_eq_true as_; have q8 : (ji5) < (a0.size : Int) := of_decide_eq_true as_; have hx8 := bt_at a0 (ji5); replace p8 := eq_true p8; replace q8 := eq_true q8));go_ret;exact ⟨by first | rfl | (simp; done) | (simp only [← pa] <;> (first | rfl | simp)) | (simp [*]; done), dr_⟩
    ·rw [if_neg c7] at H
     cases H
   ·rw [if_neg c6] at H
    cases H
 ·replace c3 := Bool.eq_false_iff.mpr c3
  subst c3;replace H := iff_ H;obtain rfl := Option.some.inj H;go_enter Tryz.func58, Tryz.ntmps58;go_wp2_with (first | ((with_reducible refine gate_callee (f := 57) rfl ?_); refine goesL_ (some 4) rfl rfl Tryz.func57 kr_ rfl #[.string a0] rfl rl_ ?_; (with_reducible refine (tollref03_Is.calls k a0 false _ A2.out).mono ?_); rintro e w' ⟨rfl, ⟨nd, rfl⟩⟩; refine ⟨_, rfl, ?_⟩));go_ret;exact ⟨sd_, dr_⟩

/-! ### tollref07_turns: function 33 -/
def tollref07_turns.j0 : Nat → Bool → Int → ByteArray → ByteArray → ByteArray → Int → ByteArray → Bool → Int → Option (Bool)
 | 0, _, _, _, _, _, _, _, _, _ => none
 | k + 1, x11, x155000, x155001, x155002, x155003, x155004, x155005, x155006, x155007 => if x11 = true then (some false) else (if x155005.toList = ([] : List UInt8) then (some (!x155006)) else ((tollref03_Is.f k x155005).bind fun t156 => (if t156 = true then (if x155006 = true then (some true) else ((tollref03_Above.f k x155005).bind fun t157 => (some t157))) else (some false))))
def tollref07_turns.f (k : Nat) (a0_0 : Int) (a0_1 : ByteArray) (a0_2 : ByteArray) (a0_3 : ByteArray) (a0_4 : Int) (a0_5 : ByteArray) (a0_6 : Bool) (a0_7 : Int) : Option (Bool) := if a0_3.toList = ([] : List UInt8) then (tollref07_turns.j0 k false a0_0 a0_1 a0_2 a0_3 a0_4 a0_5 a0_6 a0_7) else ((tollref01_Name.f k a0_3).bind fun t155 => (tollref07_turns.j0 k (!t155) a0_0 a0_1 a0_2 a0_3 a0_4 a0_5 a0_6 a0_7))
theorem tollref07_turns.mono_l : ∀ k, (∀ y0 y1 y2 y3 y4 y5 y6 y7 y8, LeO (tollref07_turns.j0 k y0 y1 y2 y3 y4 y5 y6 y7 y8) (tollref07_turns.j0 (k + 1) y0 y1 y2 y3 y4 y5 y6 y7 y8))
 | 0 => fun _ _ _ _ _ _ _ _ _ r h => by simp [tollref07_turns.j0] at h
 | k + 1 => by
  have ih0 := tollref07_turns.mono_l k
  ·intro y0 y1 y2 y3 y4 y5 y6 y7 y8
   unfold tollref07_turns.j0
   repeat' with_reducible first | apply ih0 | apply tollref01_Name.mono | apply tollref03_Above.mono | apply tollref03_Is.mono | apply LeO.refl | apply LeO.none | apply LeO.ite | refine LeO.bind ?_ fun _ => ?_
theorem tollref07_turns.mono : ∀ a0 a1 a2 a3 a4 a5 a6 a7 k, LeO (tollref07_turns.f k a0 a1 a2 a3 a4 a5 a6 a7) (tollref07_turns.f (k + 1) a0 a1 a2 a3 a4 a5 a6 a7) := by
 intro a0 a1 a2 a3 a4 a5 a6 a7 k
 have ih0 := tollref07_turns.mono_l k
 unfold tollref07_turns.f
 repeat' with_reducible first | apply ih0 | apply tollref01_Name.mono | apply tollref03_Above.mono | apply tollref03_Is.mono | apply LeO.refl | apply LeO.none | apply LeO.ite | refine LeO.bind ?_ fun _ => ?_
set_option maxHeartbeats 8000000 in
set_option maxRecDepth 100000 in
theorem tollref07_turns.calls (k : Nat) (pe : Int) (pf : ByteArray) (pg : ByteArray) (pb : ByteArray) (ph : Int) (pa : ByteArray) (pd : Bool) (pi : Int) (r : Bool) (w : World) (h : tollref07_turns.f k pe pf pg pb ph pa pd pi = some r) :
  Calls Tryz.prog 33 #[.agg #[.int .i64 pe, .string pf, .string pg, .string pb, .int .i64 ph, .string pa, .bool pd, .int .i64 pi]] w fun e w' => e = .returned (.bool r) ∧ Below w.heap.size w w' := by
 have hu26 := Tryz.underlying26;have HB := am_ (Below.refl w.heap.size w);have H : (if pb.toList = ([] : List UInt8) then (tollref07_turns.j0 k false pe pf pg pb ph pa pd pi) else ((tollref01_Name.f k pb).bind fun pk => (tollref07_turns.j0 k (!pk) pe pf pg pb ph pa pd pi))) = some r := h;clear h;have HC2 := Aside0.mk H;clear H;go_enter Tryz.func33, Tryz.ntmps33;go_upto_region 1 with (first | ((with_reducible refine gate_dst (N := 1) rfl ?_); refine box_event ?hg (N := 1) ?hd (cs := #[.int .i64 pe, .string pf, .string pg, .string pb, .int .i64 ph, .string pa, .bool pd, .int .i64 pi]) (t := 26) ?hr ?_; (case hd => rfl); (case hg => rfl); (case hr => first | (go_simp; done) | (go_simp; rfl)); intro pn hg w3 hbox hb; have pc := am_ (hbox); have pu := sz_ HB hg; have pv := sz_ HB hg; replace HB := bs_ HB hb; clear hb hbox hg))
 (try simp only [Act.put, List.setIfInBounds_toArray, List.set_cons_zero, List.set_cons_succ]);go_cut [11] (fun po wc => ∃ (kq : Nat) (pl : Bool), po = .bool pl ∧ Aside0 (tollref07_turns.j0 kq pl pe pf pg pb ph pa pd pi = some r) ∧ Aside0 (kq ≤ k) ∧ Aside0 (wc.heap[pn]? = some (.cells #[.int .i64 pe, .string pf, .string pg, .string pb, .int .i64 ph, .string pa, .bool pd, .int .i64 pi] 26 (0, 0))) ∧ Aside0 (Below w.heap.size w wc))
 case first =>
  have H := HC2.out;clear HC2;by_cases c4 : pb.toList = ([] : List UInt8)
  ·rw [if_pos c4] at H
   have pj := eqb_ c4;have pm := neb_ c4;clear c4;(first | rw [pj] | rw [pm] | rw [pp] | (simp only [i64_w, i32_w]; rw [pj]) | skip);have H' := Aside0.mk H;clear H;obtain ⟨pw, px, pz, pA, pB, pC, pD, pE, pF, pG, pH, pI, pJ, pK, pL, pM⟩ := blk8 pc.out;go_wp2;go_meet
   case rel => exact ⟨_, (false), sd_, H', ⟨le_⟩, ⟨blk_ pc.out⟩, ⟨bel_ HB.out⟩⟩
  ·rw [if_neg c4] at H
   have pj := eqf_ c4;have pm := nef_ c4;(first | rw [pj] | rw [pm] | rw [pp] | (simp only [i64_w, i32_w]; rw [pj]) | skip);obtain ⟨pk, A6, H⟩ := bnd_ H;have H' := Aside0.mk H;clear H;obtain ⟨pN, pO, pP, pQ, pR, pS, pT, pU, pV, pW, pX, pY, pZ, p0, p1, p2⟩ := blk8 pc.out;go_wp2_with (first | (go_at_call 56; (with_reducible refine (tollref01_Name.calls k pb pk _ A6.out).mono ?_); rintro e w8 ⟨rfl, hb⟩; replace pc := bb_ pc hb; replace HB := bs_ HB hb; (try clear hb)));go_meet
   case rel => exact ⟨_, (!pk), sd_, H', ⟨le_⟩, ⟨blk_ pc.out⟩, ⟨bel_ HB.out⟩⟩
 case rest =>
  clear HC2;obtain ⟨kq, pl, rfl, HA, HJ1, pc, HB⟩ := hcut;cases kq with
  | zero => exact absurd HA.out (by simp [tollref07_turns.j0])
  | succ kj1 =>
   have H := HA.out;clear HA;simp only [tollref07_turns.j0] at H;by_cases c9 : pl = true
   ·subst c9
    replace H := ift_ H;obtain rfl := Option.some.inj H;go_wp2;go_ret;exact ⟨fi_, bel_ HB.out⟩
   ·replace c9 := Bool.eq_false_iff.mpr c9
    subst c9;replace H := iff_ H;by_cases c10 : pa.toList = ([] : List UInt8)
    ·rw [if_pos c10] at H
     have pq := eqb_ c10;have pr := neb_ c10;clear c10;obtain rfl := Option.some.inj H;obtain ⟨p3, p4, p5, p7, p9, qa, qb, qc, qd, qe, qf, qg, qh, qi, qj, qk⟩ := blk8 pc.out;go_wp2;go_ret;exact ⟨fi_, bel_ HB.out⟩
    ·rw [if_neg c10] at H
     have pq := eqf_ c10;have pr := nef_ c10;obtain ⟨ps, A12, H⟩ := bnd_ H;by_cases c13 : ps = true
     ·subst c13
      replace H := ift_ H;by_cases c14 : pd = true
      ·subst c14
       replace H := ift_ H;obtain rfl := Option.some.inj H;obtain ⟨ql, qm, qn, qo, qp, qq, qr, qs, qt, qu, qv, qw, qx, qy, qz, qA⟩ := blk8 pc.out;go_wp2_with (first | ((with_reducible refine gate_callee (f := 57) rfl ?_); refine goesL_ (some 20) rfl rfl Tryz.func57 kr_ rfl #[.string pa] rfl rl_ ?_; (with_reducible refine (tollref03_Is.calls kj1 pa true _ A12.out).mono ?_); rintro e w' ⟨rfl, ⟨nd, rfl⟩⟩; refine ⟨_, rfl, ?_⟩));go_ret;exact ⟨fi_, bel_ HB.out⟩
      ·replace c14 := Bool.eq_false_iff.mpr c14
       subst c14;replace H := iff_ H;obtain ⟨pt, A16, H⟩ := bnd_ H;obtain rfl := Option.some.inj H;obtain ⟨qB, qC, qD, qE, qF, qG, qH, qI, qJ, qK, qL, qM, qN, qO, qP, qQ⟩ := blk8 pc.out;go_wp2_with (first | ((with_reducible refine gate_callee (f := 57) rfl ?_); refine goesL_ (some 20) rfl rfl Tryz.func57 kr_ rfl #[.string pa] rfl rl_ ?_; (with_reducible refine (tollref03_Is.calls kj1 pa true _ A12.out).mono ?_); rintro e w' ⟨rfl, ⟨nd, rfl⟩⟩; refine ⟨_, rfl, ?_⟩) | (go_at_call 58; (with_reducible refine (tollref03_Above.calls kj1 pa pt _ A16.out).mono ?_); rintro e w' ⟨rfl, ⟨nd, rfl⟩⟩));go_ret;exact ⟨fi_, bel_ HB.out⟩
     ·replace c13 := Bool.eq_false_iff.mpr c13
      subst c13;replace H := iff_ H;obtain rfl := Option.some.inj H;obtain ⟨qR, qS, qT, qU, qV, qW, qX, qY, qZ, q0, q1, q2, q3, q4, q5, q7⟩ := blk8 pc.out;go_wp2_with (first | ((with_reducible refine gate_callee (f := 57) rfl ?_); refine goesL_ (some 20) rfl rfl Tryz.func57 kr_ rfl #[.string pa] rfl rl_ ?_; (with_reducible refine (tollref03_Is.calls kj1 pa false _ A12.out).mono ?_); rintro e w' ⟨rfl, ⟨nd, rfl⟩⟩; refine ⟨_, rfl, ?_⟩));go_ret;exact ⟨fi_, bel_ HB.out⟩

/-! ### tollref07_May: function 11 -/
mutual
def tollref07_May.j0 : Nat → Bool → Int → ByteArray → ByteArray → ByteArray → Int → ByteArray → Bool → Int → Option (Bool)
 | 0, _, _, _, _, _, _, _, _, _ => none
 | k + 1, x3, x159000, x159001, x159002, x159003, x159004, x159005, x159006, x159007 => if x159000 = 1 then (tollref07_May.j1 k x3 x159000 (x159000 == 1) x159000 x159001 x159002 x159003 x159004 x159005 x159006 x159007) else (tollref07_May.j1 k x3 x159000 (x159000 == 2) x159000 x159001 x159002 x159003 x159004 x159005 x159006 x159007)
def tollref07_May.j1 : Nat → Bool → Int → Bool → Int → ByteArray → ByteArray → ByteArray → Int → ByteArray → Bool → Int → Option (Bool)
 | 0, _, _, _, _, _, _, _, _, _, _, _ => none
 | k + 1, x3, x28, x29, x159000, x159001, x159002, x159003, x159004, x159005, x159006, x159007 => if x29 = true then (if x3 = true then ((tollref05_Token.f k x159001).bind fun t159 => (if t159 = true then ((tollref05_Value.f k x159002).bind fun t160 => (some t160)) else (some false))) else (some false)) else (if x28 = 3 then (if x3 = true then ((tollref05_Token.f k x159001).bind fun t161 => (if t161 = true then (some (x159002.toList == ([] : List UInt8))) else (some false))) else (some false)) else (if x28 = 4 then (if x159001.toList = ([] : List UInt8) then (if x159002.toList = ([] : List UInt8) then ((tollref07_turns.f k x159000 x159001 x159002 x159003 x159004 x159005 x159006 x159007).bind fun t162 => (if t162 = true then (if 0 ≤ x159004 then (if x159004 ≤ 65535 then (if x159007 = 301 then (some true) else (some (x159007 == 302))) else (some false)) else (some false)) else (some false))) else (some false)) else (some false)) else (if x28 = 5 then (if x159001.toList = ([] : List UInt8) then (if x159002.toList = ([] : List UInt8) then (if x159004 = 0 then (if x159007 = 0 then ((tollref07_turns.f k x159000 x159001 x159002 x159003 x159004 x159005 x159006 x159007).bind fun t163 => (if t163 = true then (if x159003.size + x159005.size ≤ 9223372036854775807 then (some ((x159003 ++ x159005).toList != ([] : List UInt8))) else (none)) else (some false))) else (some false)) else (some false)) else (some false)) else (some false)) else (some false))))
end
def tollref07_May.f (k : Nat) (a0_0 : Int) (a0_1 : ByteArray) (a0_2 : ByteArray) (a0_3 : ByteArray) (a0_4 : Int) (a0_5 : ByteArray) (a0_6 : Bool) (a0_7 : Int) : Option (Bool) := if a0_3.toList = ([] : List UInt8) then (if a0_4 = 0 then (if a0_5.toList = ([] : List UInt8) then (if a0_6 = true then (tollref07_May.j0 k false a0_0 a0_1 a0_2 a0_3 a0_4 a0_5 a0_6 a0_7) else (tollref07_May.j0 k (a0_7 == 0) a0_0 a0_1 a0_2 a0_3 a0_4 a0_5 a0_6 a0_7)) else (tollref07_May.j0 k false a0_0 a0_1 a0_2 a0_3 a0_4 a0_5 a0_6 a0_7)) else (tollref07_May.j0 k false a0_0 a0_1 a0_2 a0_3 a0_4 a0_5 a0_6 a0_7)) else (tollref07_May.j0 k false a0_0 a0_1 a0_2 a0_3 a0_4 a0_5 a0_6 a0_7)
theorem tollref07_May.mono_l : ∀ k, (∀ y0 y1 y2 y3 y4 y5 y6 y7 y8, LeO (tollref07_May.j0 k y0 y1 y2 y3 y4 y5 y6 y7 y8) (tollref07_May.j0 (k + 1) y0 y1 y2 y3 y4 y5 y6 y7 y8)) ∧ (∀ y0 y1 y2 y3 y4 y5 y6 y7 y8 y9 y10, LeO (tollref07_May.j1 k y0 y1 y2 y3 y4 y5 y6 y7 y8 y9 y10) (tollref07_May.j1 (k + 1) y0 y1 y2 y3 y4 y5 y6 y7 y8 y9 y10))
 | 0 => ⟨fun _ _ _ _ _ _ _ _ _ r h => by simp [tollref07_May.j0] at h, fun _ _ _ _ _ _ _ _ _ _ _ r h => by simp [tollref07_May.j1] at h⟩
 | k + 1 => by
  obtain ⟨ih0, ih1⟩ := tollref07_May.mono_l k
  refine ⟨?_, ?_⟩
  ·intro y0 y1 y2 y3 y4 y5 y6 y7 y8
   unfold tollref07_May.j0
   repeat' with_reducible first | apply ih0 | apply ih1 | apply tollref05_Token.mono | apply tollref05_Value.mono | apply tollref07_turns.mono | apply LeO.refl | apply LeO.none | apply LeO.ite | refine LeO.bind ?_ fun _ => ?_
  ·intro y0 y1 y2 y3 y4 y5 y6 y7 y8 y9 y10
   unfold tollref07_May.j1
   repeat' with_reducible first | apply ih0 | apply ih1 | apply tollref05_Token.mono | apply tollref05_Value.mono | apply tollref07_turns.mono | apply LeO.refl | apply LeO.none | apply LeO.ite | refine LeO.bind ?_ fun _ => ?_
theorem tollref07_May.mono : ∀ a0 a1 a2 a3 a4 a5 a6 a7 k, LeO (tollref07_May.f k a0 a1 a2 a3 a4 a5 a6 a7) (tollref07_May.f (k + 1) a0 a1 a2 a3 a4 a5 a6 a7) := by
 intro a0 a1 a2 a3 a4 a5 a6 a7 k
 obtain ⟨ih0, ih1⟩ := tollref07_May.mono_l k
 unfold tollref07_May.f
 repeat' with_reducible first | apply ih0 | apply ih1 | apply tollref05_Token.mono | apply tollref05_Value.mono | apply tollref07_turns.mono | apply LeO.refl | apply LeO.none | apply LeO.ite | refine LeO.bind ?_ fun _ => ?_
set_option maxHeartbeats 6000000 in
set_option maxRecDepth 100000 in
theorem tollref07_May.calls (k : Nat) (pb : Int) (pc : ByteArray) (ph : ByteArray) (pe : ByteArray) (pd : Int) (pf : ByteArray) (pi : Bool) (pg : Int) (r : Bool) (w : World) (h : tollref07_May.f k pb pc ph pe pd pf pi pg = some r) :
  Calls Tryz.prog 11 #[.agg #[.int .i64 pb, .string pc, .string ph, .string pe, .int .i64 pd, .string pf, .bool pi, .int .i64 pg]] w fun e w' => e = .returned (.bool r) ∧ Below w.heap.size w w' := by
 have hu26 := Tryz.underlying26;have HB := am_ (Below.refl w.heap.size w);have H : (if pe.toList = ([] : List UInt8) then (if pd = 0 then (if pf.toList = ([] : List UInt8) then (if pi = true then (tollref07_May.j0 k false pb pc ph pe pd pf pi pg) else (tollref07_May.j0 k (pg == 0) pb pc ph pe pd pf pi pg)) else (tollref07_May.j0 k false pb pc ph pe pd pf pi pg)) else (tollref07_May.j0 k false pb pc ph pe pd pf pi pg)) else (tollref07_May.j0 k false pb pc ph pe pd pf pi pg)) = some r := h;clear h;have HC2 := Aside0.mk H;clear H;go_enter Tryz.func11, Tryz.ntmps11;go_upto_region 1 with (first | ((with_reducible refine gate_dst (N := 1) rfl ?_); refine box_event ?hg (N := 1) ?hd (cs := #[.int .i64 pb, .string pc, .string ph, .string pe, .int .i64 pd, .string pf, .bool pi, .int .i64 pg]) (t := 26) ?hr ?_; (case hd => rfl); (case hg => rfl); (case hr => first | (go_simp; done) | (go_simp; rfl)); intro pp hg w3 hbox hb; have pa := am_ (hbox); have qh := sz_ HB hg; have qi := sz_ HB hg; replace HB := bs_ HB hb; clear hb hbox hg))
 (try simp only [Act.put, List.setIfInBounds_toArray, List.set_cons_zero, List.set_cons_succ]);go_cut [3] (fun v3 wc => ∃ (kq : Nat) (pj : Bool), v3 = .bool pj ∧ Aside0 (tollref07_May.j0 kq pj pb pc ph pe pd pf pi pg = some r) ∧ Aside0 (kq ≤ k) ∧ Aside0 (wc.heap[pp]? = some (.cells #[.int .i64 pb, .string pc, .string ph, .string pe, .int .i64 pd, .string pf, .bool pi, .int .i64 pg] 26 (0, 0))) ∧ Aside0 (Below w.heap.size w wc))
 case first =>
  have H := HC2.out;clear HC2;by_cases c4 : pe.toList = ([] : List UInt8)
  ·rw [if_pos c4] at H
   have pk := eqb_ c4;have pn := neb_ c4;clear c4;(first | rw [pk] | rw [pn] | rw [pq] | (simp only [i64_w, i32_w]; rw [pk]) | skip);by_cases c5 : pd = 0
   ·rw [if_pos c5] at H
    have pr := eqb_ c5;have ps := neb_ c5;clear c5;by_cases c6 : pf.toList = ([] : List UInt8)
    ·rw [if_pos c6] at H
     have pt := eqb_ c6;have pu := neb_ c6;clear c6;by_cases c7 : pi = true
     ·subst c7
      replace H := ift_ H;have H' := Aside0.mk H;clear H;obtain ⟨qj, qk, ql, qm, qn, qo, qp, qq, qr, qs, qt, qu, qv, qw, qx, qy⟩ := blk8 pa.out;go_wp2;go_meet
      case rel => exact ⟨_, (false), sd_, H', ⟨le_⟩, ⟨blk_ pa.out⟩, ⟨bel_ HB.out⟩⟩
     ·replace c7 := Bool.eq_false_iff.mpr c7
      subst c7;replace H := iff_ H;have H' := Aside0.mk H;clear H;obtain ⟨qz, qA, qB, qC, qD, qE, qF, qG, qH, qI, qJ, qK, qL, qM, qN, qO⟩ := blk8 pa.out;go_wp2;go_meet
      case rel => exact ⟨_, ((pg == 0)), sd_, H', ⟨le_⟩, ⟨blk_ pa.out⟩, ⟨bel_ HB.out⟩⟩
    ·rw [if_neg c6] at H
     have pt := eqf_ c6;have pu := nef_ c6;have H' := Aside0.mk H;clear H;obtain ⟨qP, qQ, qR, qS, qT, qU, qV, qW, qX, qY, qZ, q0, q1, q2, q3, q4⟩ := blk8 pa.out;go_wp2;go_meet
     case rel => exact ⟨_, (false), sd_, H', ⟨le_⟩, ⟨blk_ pa.out⟩, ⟨bel_ HB.out⟩⟩
   ·rw [if_neg c5] at H
    have pr := eqf_ c5;have ps := nef_ c5;have H' := Aside0.mk H;clear H;obtain ⟨q5, q7, q9, ra, rb, rc, rd, re, rf, rg, rh, ri, rj, rk, rl, rm⟩ := blk8 pa.out;go_wp2;go_meet
    case rel => exact ⟨_, (false), sd_, H', ⟨le_⟩, ⟨blk_ pa.out⟩, ⟨bel_ HB.out⟩⟩
  ·rw [if_neg c4] at H
   have pk := eqf_ c4;have pn := nef_ c4;(first | rw [pk] | rw [pn] | rw [pq] | (simp only [i64_w, i32_w]; rw [pk]) | skip);have H' := Aside0.mk H;clear H;obtain ⟨rn, ro, rp, rq, rr, rs, rt, ru, rv, rx, ry, rz, rA, rB, rC, rD⟩ := blk8 pa.out;go_wp2;go_meet
   case rel => exact ⟨_, (false), sd_, H', ⟨le_⟩, ⟨blk_ pa.out⟩, ⟨bel_ HB.out⟩⟩
 case rest =>
  clear HC2;obtain ⟨kq, pj, rfl, HA, HJ1, pa, HB⟩ := hcut;cases kq with
  | zero => exact absurd HA.out (by simp [tollref07_May.j0])
  | succ kj1 =>
   have H := HA.out;clear HA;simp only [tollref07_May.j0] at H;have HC13 := Aside0.mk H;clear H;obtain ⟨pv, pw, px, pz, pA, pB, pC, pD, pE, pF, pG, pH, pI, pJ, pK, pL⟩ := blk8 pa.out;go_upto_if 29 with (fail)
   go_cut [29] (fun pM wc => ∃ (kq : Nat) (pm : Bool), pM = .bool pm ∧ Aside0 (tollref07_May.j1 kq pj pb pm pb pc ph pe pd pf pi pg = some r) ∧ Aside0 (kq ≤ kj1) ∧ Aside0 (wc.heap[pp]? = some (.cells #[.int .i64 pb, .string pc, .string ph, .string pe, .int .i64 pd, .string pf, .bool pi, .int .i64 pg] 26 (0, 0))) ∧ Aside0 (Below w.heap.size w wc))
   case first =>
    have H := HC13.out;clear HC13;by_cases c15 : pb = 1
    ·rw [if_pos c15] at H
     have pl := eqb_ c15;have po := neb_ c15;clear c15;(first | rw [pl] | rw [po] | rw [pN] | (simp only [i64_w, i32_w]; rw [pl]) | skip);have H' := Aside0.mk H;clear H;go_wp2;go_meet
     case rel => exact ⟨_, ((pb == 1)), sd_, H', ⟨le1_ HJ1.out⟩, ⟨blk_ pa.out⟩, ⟨bel_ HB.out⟩⟩
    ·rw [if_neg c15] at H
     have pl := eqf_ c15;have po := nef_ c15;(first | rw [pl] | rw [po] | rw [pN] | (simp only [i64_w, i32_w]; rw [pl]) | skip);have H' := Aside0.mk H;clear H;go_wp2;go_meet
     case rel => exact ⟨_, ((pb == 2)), sd_, H', ⟨le1_ HJ1.out⟩, ⟨blk_ pa.out⟩, ⟨bel_ HB.out⟩⟩
   case rest =>
    clear HC13;try clear pv pw px pz pA pB pC pD pE pF pG pH pI pJ pK pL
    obtain ⟨kq, pm, rfl, HA, HJ12, pa, HB⟩ := hcut;cases kq with
    | zero => exact absurd HA.out (by simp [tollref07_May.j1])
    | succ kj12 =>
     have H := HA.out;clear HA;simp only [tollref07_May.j1] at H;by_cases c16 : pm = true
     ·subst c16
      replace H := ift_ H;by_cases c17 : pj = true
      ·subst c17
       replace H := ift_ H;obtain ⟨pO, A18, H⟩ := bnd_ H;by_cases c19 : pO = true
       ·subst c19
        replace H := ift_ H;obtain ⟨pP, A20, H⟩ := bnd_ H;obtain rfl := Option.some.inj H;obtain ⟨rE, rF, rG, rH, rI, rJ, rK, rL, rM, rN, rO, rP, rQ, rR, rS, rT⟩ := blk8 pa.out;go_wp2_with (first | (go_at_call 31; (with_reducible refine (tollref05_Token.calls kj12 pc true _ A18.out).mono ?_); rintro e w' ⟨rfl, ⟨nd, rfl⟩⟩) | (go_at_call 32; (with_reducible refine (tollref05_Value.calls kj12 ph pP _ A20.out).mono ?_); rintro e w' ⟨rfl, ⟨nd, rfl⟩⟩));go_ret;exact ⟨fi_, bel_ HB.out⟩
       ·replace c19 := Bool.eq_false_iff.mpr c19
        subst c19;replace H := iff_ H;obtain rfl := Option.some.inj H;obtain ⟨rU, rV, rW, rX, rY, rZ, r0, r1, r2, r3, r4, r5, r6, r7, r8, r9⟩ := blk8 pa.out;go_wp2_with (first | (go_at_call 31; (with_reducible refine (tollref05_Token.calls kj12 pc false _ A18.out).mono ?_); rintro e w' ⟨rfl, ⟨nd, rfl⟩⟩));go_ret;exact ⟨fi_, bel_ HB.out⟩
      ·replace c17 := Bool.eq_false_iff.mpr c17
       subst c17;replace H := iff_ H;obtain rfl := Option.some.inj H;go_wp2;go_ret;exact ⟨fi_, bel_ HB.out⟩
     ·replace c16 := Bool.eq_false_iff.mpr c16
      subst c16;replace H := iff_ H;by_cases c23 : pb = 3
      ·rw [if_pos c23] at H
       have pQ := eqb_ c23;have pR := neb_ c23;clear c23;by_cases c24 : pj = true
       ·subst c24
        replace H := ift_ H;obtain ⟨pS, A25, H⟩ := bnd_ H;by_cases c26 : pS = true
        ·subst c26
         replace H := ift_ H;obtain rfl := Option.some.inj H;obtain ⟨za, zb, zc, zd, ze, zf, zg, zh, zi, zj, zk, zl, zm, zn, zo, zp⟩ := blk8 pa.out;go_wp2_with (first | (go_at_call 31; (with_reducible refine (tollref05_Token.calls kj12 pc true _ A25.out).mono ?_); rintro e w' ⟨rfl, ⟨nd, rfl⟩⟩));go_ret;exact ⟨fi_, bel_ HB.out⟩
        ·replace c26 := Bool.eq_false_iff.mpr c26
         subst c26;replace H := iff_ H;obtain rfl := Option.some.inj H;obtain ⟨zq, zr, zs, zt, zu, zv, zw, zx, zy, zz, zA, zB, zC, zD, zE, zF⟩ := blk8 pa.out;go_wp2_with (first | (go_at_call 31; (with_reducible refine (tollref05_Token.calls kj12 pc false _ A25.out).mono ?_); rintro e w' ⟨rfl, ⟨nd, rfl⟩⟩));go_ret;exact ⟨fi_, bel_ HB.out⟩
       ·replace c24 := Bool.eq_false_iff.mpr c24
        subst c24;replace H := iff_ H;obtain rfl := Option.some.inj H;go_wp2;go_ret;exact ⟨fi_, bel_ HB.out⟩
      ·rw [if_neg c23] at H
       have pQ := eqf_ c23;have pR := nef_ c23;by_cases c29 : pb = 4
       ·rw [if_pos c29] at H
        have pT := eqb_ c29;have pU := neb_ c29;clear c29;by_cases c30 : pc.toList = ([] : List UInt8)
        ·rw [if_pos c30] at H
         have pV := eqb_ c30;have pW := neb_ c30;clear c30;by_cases c31 : ph.toList = ([] : List UInt8)
         ·rw [if_pos c31] at H
          have pX := eqb_ c31;have pY := neb_ c31;clear c31;obtain ⟨pZ, A32, H⟩ := bnd_ H;by_cases c33 : pZ = true
          ·subst c33
           replace H := ift_ H;by_cases c34 : 0 ≤ pd
           ·rw [if_pos c34] at H
            have p0 := decide_eq_true c34;clear c34;by_cases c35 : pd ≤ 65535
            ·rw [if_pos c35] at H
             have p1 := decide_eq_true c35;clear c35;by_cases c36 : pg = 301
             ·rw [if_pos c36] at H
              have p2 := eqb_ c36;have p3 := neb_ c36;clear c36;obtain rfl := Option.some.inj H;obtain ⟨zG, zH, zI, zJ, zK, zL, zM, zN, zO, zP, zQ, zR, zS, zT, zU, zV⟩ := blk8 pa.out;go_wp2_with (first | (go_at_call 33; (with_reducible refine (tollref07_turns.calls kj12 pb pc ph pe pd pf pi pg true _ A32.out).mono ?_); rintro e w38 ⟨rfl, hb⟩; replace pa := bb_ pa hb; replace HB := bs_ HB hb; (try clear hb); obtain ⟨zW, zX, zY, zZ, z0, z1, z2, z3, z4, z5, z6, z7, z8, z9, xa, xb⟩ := blk8 pa.out));go_ret;exact ⟨fi_, bel_ HB.out⟩
             ·rw [if_neg c36] at H
              have p2 := eqf_ c36;have p3 := nef_ c36;obtain rfl := Option.some.inj H;obtain ⟨xc, xd, xe, xf, xg, xh, xi, xj, xk, xl, xm, xn, xo, xp, xq, xr⟩ := blk8 pa.out;go_wp2_with (first | (go_at_call 33; (with_reducible refine (tollref07_turns.calls kj12 pb pc ph pe pd pf pi pg true _ A32.out).mono ?_); rintro e w41 ⟨rfl, hb⟩; replace pa := bb_ pa hb; replace HB := bs_ HB hb; (try clear hb); obtain ⟨xs, xt, xu, xv, xw, xx, xy, xz, xA, xB, xC, xD, xE, xF, xG, xH⟩ := blk8 pa.out));go_ret;exact ⟨fi_, bel_ HB.out⟩
            ·rw [if_neg c35] at H
             have p1 := decide_eq_false c35;clear c35;obtain rfl := Option.some.inj H;obtain ⟨xI, xJ, xK, xL, xM, xN, xO, xP, xQ, xR, xS, xT, xU, xV, xW, xX⟩ := blk8 pa.out;go_wp2_with (first | (go_at_call 33; (with_reducible refine (tollref07_turns.calls kj12 pb pc ph pe pd pf pi pg true _ A32.out).mono ?_); rintro e w44 ⟨rfl, hb⟩; replace pa := bb_ pa hb; replace HB := bs_ HB hb; (try clear hb); obtain ⟨xY, xZ, x1, x2, x4, x5, x6, x7, x8, x9, ga, gb, gc, gd, ge, gf⟩ := blk8 pa.out));go_ret;exact ⟨fi_, bel_ HB.out⟩
           ·rw [if_neg c34] at H
            have p0 := decide_eq_false c34;clear c34;obtain rfl := Option.some.inj H;obtain ⟨gg, gh, gi, gj, gl, gm, gn, go, gp, gq, gr, gs, gt, gu, gv, gw⟩ := blk8 pa.out;go_wp2_with (first | (go_at_call 33; (with_reducible refine (tollref07_turns.calls kj12 pb pc ph pe pd pf pi pg true _ A32.out).mono ?_); rintro e w47 ⟨rfl, hb⟩; replace pa := bb_ pa hb; replace HB := bs_ HB hb; (try clear hb); obtain ⟨gx, gy, gz, gA, gB, gC, gD, gE, gF, gG, gH, gI, gJ, gK, gL, gM⟩ := blk8 pa.out));go_ret;exact ⟨fi_, bel_ HB.out⟩
          ·replace c33 := Bool.eq_false_iff.mpr c33
           subst c33;replace H := iff_ H;obtain rfl := Option.some.inj H;obtain ⟨gN, gO, gP, gQ, gR, gS, gT, gU, gV, gW, gX, gY, gZ, g0, g1, g2⟩ := blk8 pa.out;go_wp2_with (first | (go_at_call 33; (with_reducible refine (tollref07_turns.calls kj12 pb pc ph pe pd pf pi pg false _ A32.out).mono ?_); rintro e w50 ⟨rfl, hb⟩; replace pa := bb_ pa hb; replace HB := bs_ HB hb; (try clear hb)));go_ret;exact ⟨fi_, bel_ HB.out⟩
         ·rw [if_neg c31] at H
          have pX := eqf_ c31;have pY := nef_ c31;obtain rfl := Option.some.inj H;obtain ⟨g3, g4, g5, g6, g7, g8, g9, da, db, dc, dd, de, df, dg, dh, di⟩ := blk8 pa.out;go_wp2;go_ret;exact ⟨fi_, bel_ HB.out⟩
        ·rw [if_neg c30] at H
         have pV := eqf_ c30;have pW := nef_ c30;obtain rfl := Option.some.inj H;obtain ⟨dj, dk, dl, dm, dn, dp, dq, dr, ds, dt, du, dv, dw, dx, dy, dz⟩ := blk8 pa.out;go_wp2;go_ret;exact ⟨fi_, bel_ HB.out⟩
       ·rw [if_neg c29] at H
        have pT := eqf_ c29;have pU := nef_ c29;by_cases c53 : pb = 5
        ·rw [if_pos c53] at H
         have p4 := eqb_ c53;have p5 := neb_ c53;clear c53;by_cases c54 : pc.toList = ([] : List UInt8)
         ·rw [if_pos c54] at H
          have p7 := eqb_ c54;have p9 := neb_ c54;clear c54;by_cases c55 : ph.toList = ([] : List UInt8)
          ·rw [if_pos c55] at H
           have qa := eqb_ c55;have qb := neb_ c55;clear c55;by_cases c56 : pd = 0
           ·rw [if_pos c56] at H
            have qc := eqb_ c56;have qd := neb_ c56;clear c56;by_cases c57 : pg = 0
            ·rw [if_pos c57] at H
             have qe := eqb_ c57;have qf := neb_ c57;clear c57;obtain ⟨qg, A58, H⟩ := bnd_ H;by_cases c59 : qg = true
             ·subst c59
              replace H := ift_ H;by_cases c60 : pe.size + pf.size ≤ 9223372036854775807
              ·rw [if_pos c60] at H
               have dA := eq_true c60;have dB := decide_eq_true c60;try have dC : (9223372036854775807 < pe.size + pf.size) = False := eq_false (Nat.not_lt.2 c60)
               obtain rfl := Option.some.inj H;obtain ⟨dD, dE, dF, dG, dH, dI, dJ, dK, dL, dM, dN, dO, dP, dQ, dR, dS⟩ := blk8 pa.out;go_wp2_with (first | (go_at_call 33; (with_reducible refine (tollref07_turns.calls kj12 pb pc ph pe pd pf pi pg true _ A58.out).mono ?_); rintro e w62 ⟨rfl, hb⟩; replace pa := bb_ pa hb; replace HB := bs_ HB hb; (try clear hb); obtain ⟨dT, dU, dV, dW, dX, dY, dZ, d0, d1, d2, d3, d4, d5, d6, d7, d8⟩ := blk8 pa.out));go_ret;exact ⟨fi_, bel_ HB.out⟩
              ·rw [if_neg c60] at H
               cases H
             ·replace c59 := Bool.eq_false_iff.mpr c59
              subst c59;replace H := iff_ H;obtain rfl := Option.some.inj H;obtain ⟨d9, ea, eb, ec, ed, ee, ef, eg, eh, ei, ej, ek, el, em, en, eo⟩ := blk8 pa.out;go_wp2_with (first | (go_at_call 33; (with_reducible refine (tollref07_turns.calls kj12 pb pc ph pe pd pf pi pg false _ A58.out).mono ?_); rintro e w65 ⟨rfl, hb⟩; replace pa := bb_ pa hb; replace HB := bs_ HB hb; (try clear hb)));go_ret;exact ⟨fi_, bel_ HB.out⟩
            ·rw [if_neg c57] at H
             have qe := eqf_ c57;have qf := nef_ c57;obtain rfl := Option.some.inj H;obtain ⟨ep, eq, er, es, et, eu, ev, ew, ex, ey, ez, eA, eB, eC, eD, eE⟩ := blk8 pa.out;go_wp2;go_ret;exact ⟨fi_, bel_ HB.out⟩
           ·rw [if_neg c56] at H
            have qc := eqf_ c56;have qd := nef_ c56;obtain rfl := Option.some.inj H;obtain ⟨eF, eG, eH, eI, eJ, eK, eL, eM, eN, eO, eP, eQ, eR, eS, eT, eU⟩ := blk8 pa.out;go_wp2;go_ret;exact ⟨fi_, bel_ HB.out⟩
          ·rw [if_neg c55] at H
           have qa := eqf_ c55;have qb := nef_ c55;obtain rfl := Option.some.inj H;obtain ⟨eV, eW, eX, eY, eZ, e0, e1, e2, e3, e4, e5, e6, e7, e8, e9, ua⟩ := blk8 pa.out;go_wp2;go_ret;exact ⟨fi_, bel_ HB.out⟩
         ·rw [if_neg c54] at H
          have p7 := eqf_ c54;have p9 := nef_ c54;obtain rfl := Option.some.inj H;obtain ⟨ub, uc, ud, ue, uf, ug, uh, ui, uj, uk, ul, um, un, uo, up, uq⟩ := blk8 pa.out;go_wp2;go_ret;exact ⟨fi_, bel_ HB.out⟩
        ·rw [if_neg c53] at H
         have p4 := eqf_ c53;have p5 := nef_ c53;obtain rfl := Option.some.inj H;go_wp2;go_ret;exact ⟨fi_, bel_ HB.out⟩

end Go.Proofs.YtfdopmjgiakcdaaGreatDoor.P
