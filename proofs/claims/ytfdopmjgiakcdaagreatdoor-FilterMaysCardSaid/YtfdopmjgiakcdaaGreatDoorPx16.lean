-- written by wip/tool/hprint.py of this repo: the kit's print, with contracts by hand joined; Lean checks it.
import Derived.Test.YtfdopmjgiakcdaaGreatDoorPx0
import Derived.Test.YtfdopmjgiakcdaaGreatDoorPx11
import Derived.Test.YtfdopmjgiakcdaaGreatDoorPx15
namespace Go.Proofs.YtfdopmjgiakcdaaGreatDoor.P
open Go.RowKit Go.Proofs.YtfdopmjgiakcdaaGreatDoorW.PrintWords Go.Proofs.YtfdopmjgiakcdaaGreatDoorW.PrintLast Go.Proofs.YtfdopmjgiakcdaaGreatDoorW.PrintMore
attribute [local go_sem] max2_int min2_int max_two min_two max_three min_three max_four min_four   -- for this text's walks alone
set_option linter.unusedVariables false
set_option linter.unusedSimpArgs false

/-! ### tollref07_All: function 13 -/
mutual
def tollref07_All.l0 : Nat → List (S26) → Int → Int → Option (Bool)
 | 0, _, _, _ => none
 | k + 1, x0, x3, x4 => if x4 < (x0.length : Int) then (if 0 ≤ x4 then ((tollref07_May.f k ((rd_T26 x0 x4).f0) ((rd_T26 x0 x4).f1) ((rd_T26 x0 x4).f2) ((rd_T26 x0 x4).f3) ((rd_T26 x0 x4).f4) ((rd_T26 x0 x4).f5) ((rd_T26 x0 x4).f6) ((rd_T26 x0 x4).f7)).bind fun t179 => (if t179 = true then (if ((rd_T26 x0 x4).f0) > 3 then (tollref07_All.j1 k x0 (wrap64 (x3 + 1)) x4) else (tollref07_All.j1 k x0 x3 x4)) else (some false))) else (none)) else (if x3 ≤ 1 then (some (decide ((x0.length : Int) ≤ 8))) else (some false))
def tollref07_All.j1 : Nat → List (S26) → Int → Int → Option (Bool)
 | 0, _, _, _ => none
 | k + 1, x0, x3, x4 => tollref07_All.l1 k x0 x3 x4 0
def tollref07_All.l1 : Nat → List (S26) → Int → Int → Int → Option (Bool)
 | 0, _, _, _, _ => none
 | k + 1, x0, x3, x4, x5 => if x5 < x4 then (if 0 ≤ x5 then (if x5 < (x0.length : Int) then (if 0 ≤ x4 then (if x4 < (x0.length : Int) then (if ((rd_T26 x0 x5).f0) = ((rd_T26 x0 x4).f0) then ((tollref05_Same.f k ((rd_T26 x0 x5).f1) ((rd_T26 x0 x4).f1)).bind fun t185 => (if t185 = true then (some false) else (tollref07_All.l1 k x0 x3 x4 (wrap64 (x5 + 1))))) else (tollref07_All.l1 k x0 x3 x4 (wrap64 (x5 + 1)))) else (none)) else (none)) else (none)) else (none)) else (tollref07_All.l0 k x0 x3 (wrap64 (x4 + 1)))
end
def tollref07_All.f (k : Nat) (l0 : List (S26)) : Option (Bool) := tollref07_All.l0 k l0 0 0
theorem tollref07_All.mono_l : ∀ k, (∀ y0 y1 y2, LeO (tollref07_All.l0 k y0 y1 y2) (tollref07_All.l0 (k + 1) y0 y1 y2)) ∧ (∀ y0 y1 y2, LeO (tollref07_All.j1 k y0 y1 y2) (tollref07_All.j1 (k + 1) y0 y1 y2)) ∧ (∀ y0 y1 y2 y3, LeO (tollref07_All.l1 k y0 y1 y2 y3) (tollref07_All.l1 (k + 1) y0 y1 y2 y3))
 | 0 => ⟨fun _ _ _ r h => by simp [tollref07_All.l0] at h, fun _ _ _ r h => by simp [tollref07_All.j1] at h, fun _ _ _ _ r h => by simp [tollref07_All.l1] at h⟩
 | k + 1 => by
  obtain ⟨ih0, ih1, ih2⟩ := tollref07_All.mono_l k
  refine ⟨?_, ?_, ?_⟩
  ·intro y0 y1 y2
   unfold tollref07_All.l0
   repeat' first
   | (with_reducible exact ih0 _ _ _)
   | (with_reducible exact ih1 _ _ _)
   | (with_reducible exact ih2 _ _ _ _)
   | (with_reducible exact tollref05_Same.mono _ _ _)
   | (with_reducible exact tollref07_May.mono _ _ _ _ _ _ _ _ _)
   | (with_reducible exact LeO.refl _)
   | (with_reducible exact LeO.none _)
   | (with_reducible refine LeO.ite ?_ ?_)
   | (with_reducible refine LeO.bind ?_ (fun _ => ?_))
   | exact ih0 _ _ _
   | exact ih1 _ _ _
   | exact ih2 _ _ _ _
   | exact tollref05_Same.mono _ _ _
   | exact tollref07_May.mono _ _ _ _ _ _ _ _ _
   | exact LeO.none _
   | refine LeO.ite ?_ ?_
   | refine LeO.bind ?_ (fun _ => ?_)
  ·intro y0 y1 y2
   unfold tollref07_All.j1
   repeat' first
   | (with_reducible exact ih0 _ _ _)
   | (with_reducible exact ih1 _ _ _)
   | (with_reducible exact ih2 _ _ _ _)
   | (with_reducible exact tollref05_Same.mono _ _ _)
   | (with_reducible exact tollref07_May.mono _ _ _ _ _ _ _ _ _)
   | (with_reducible exact LeO.refl _)
   | (with_reducible exact LeO.none _)
   | (with_reducible refine LeO.ite ?_ ?_)
   | (with_reducible refine LeO.bind ?_ (fun _ => ?_))
   | exact ih0 _ _ _
   | exact ih1 _ _ _
   | exact ih2 _ _ _ _
   | exact tollref05_Same.mono _ _ _
   | exact tollref07_May.mono _ _ _ _ _ _ _ _ _
   | exact LeO.none _
   | refine LeO.ite ?_ ?_
   | refine LeO.bind ?_ (fun _ => ?_)
  ·intro y0 y1 y2 y3
   unfold tollref07_All.l1
   repeat' first
   | (with_reducible exact ih0 _ _ _)
   | (with_reducible exact ih1 _ _ _)
   | (with_reducible exact ih2 _ _ _ _)
   | (with_reducible exact tollref05_Same.mono _ _ _)
   | (with_reducible exact tollref07_May.mono _ _ _ _ _ _ _ _ _)
   | (with_reducible exact LeO.refl _)
   | (with_reducible exact LeO.none _)
   | (with_reducible refine LeO.ite ?_ ?_)
   | (with_reducible refine LeO.bind ?_ (fun _ => ?_))
   | exact ih0 _ _ _
   | exact ih1 _ _ _
   | exact ih2 _ _ _ _
   | exact tollref05_Same.mono _ _ _
   | exact tollref07_May.mono _ _ _ _ _ _ _ _ _
   | exact LeO.none _
   | refine LeO.ite ?_ ?_
   | refine LeO.bind ?_ (fun _ => ?_)
theorem tollref07_All.mono : ∀ a0 k, LeO (tollref07_All.f k a0) (tollref07_All.f (k + 1) a0) := by
 intro a0 k
 obtain ⟨ih0, ih1, ih2⟩ := tollref07_All.mono_l k
 unfold tollref07_All.f
 repeat' first
   | (with_reducible exact ih0 _ _ _)
   | (with_reducible exact ih1 _ _ _)
   | (with_reducible exact ih2 _ _ _ _)
   | (with_reducible exact tollref05_Same.mono _ _ _)
   | (with_reducible exact tollref07_May.mono _ _ _ _ _ _ _ _ _)
   | (with_reducible exact LeO.refl _)
   | (with_reducible exact LeO.none _)
   | (with_reducible refine LeO.ite ?_ ?_)
   | (with_reducible refine LeO.bind ?_ (fun _ => ?_))
   | exact ih0 _ _ _
   | exact ih1 _ _ _
   | exact ih2 _ _ _ _
   | exact tollref05_Same.mono _ _ _
   | exact tollref07_May.mono _ _ _ _ _ _ _ _ _
   | exact LeO.none _
   | refine LeO.ite ?_ ?_
   | refine LeO.bind ?_ (fun _ => ?_)
def tollref07_All.T12 : Bool × List (List Nat × List Nat) := (true, [([], []), ([], []), ([0, 1], [0, 1]), ([2], [2]), ([3], [3]), ([], []), ([], []), ([5, 6], [5, 6]), ([7], [7]), ([8], [8]), ([4, 9], [4, 9]), ([10], [10]), ([11], [11]), ([11], [11]), ([12, 13, 11], [11, 12, 13]), ([14, 11], [11, 14]), ([15, 11], [11, 15]), ([11], [11]), ([11], [11]), ([17, 18, 11], [11, 17, 18]), ([19, 11], [11, 19]), ([20, 11], [11, 20]), ([16, 21, 11, 11], [11, 16, 21]), ([11, 22], [11, 22])])
def tollref07_All.B12 : List Nat := [0, 0, 3, 7, 15, 0, 0, 96, 224, 480, 1023, 2047, 4095, 4095, 16383, 32767, 65535, 4095, 4095, 397311, 921599, 1970175, 4194303, 8388607]
theorem tollref07_All.tab12 : rtab .any (opsOf Tryz.f13 12) = tollref07_All.T12 := by kernel_rfl
theorem tollref07_All.bits12 : waitsOk tollref07_All.T12.2 tollref07_All.B12 = true := by kernel_rfl
set_option maxHeartbeats 6000000 in
set_option maxRecDepth 100000 in
theorem tollref07_All.calls (k : Nat) (A0 : Option Addr) (c0 : Nat) (l0 : List (S26)) (r : Bool) (w : World) (hr0 : Kd.C k26 w A0 l0.length l0) (hc0 : l0.length ≤ c0) (h : tollref07_All.f k l0 = some r) :
  Calls Tryz.prog 13 #[.slice A0 l0.length c0] w fun e w' => e = .returned (.bool r) ∧ Below w.heap.size w w' := by
 have hu26 := Tryz.underlying26
 have HR0 := Aside0.mk hr0
 have HC0 := Aside0.mk hc0
 clear hr0 hc0
 have HB := am_ (Below.refl w.heap.size w)
 have H : (tollref07_All.l0 k l0 0 0) = some r := h
 clear h
 have H' := Aside0.mk H
 clear H
 go_enter Tryz.func13, Tryz.ntmps13
 go_wp2
 go_loopg [3, 4] k (fun kq v3 v4 w' => ∃ (x3_1 : Int) (x4_1 : Int), v3 = .int .i64 x3_1 ∧ v4 = .int .i64 x4_1 ∧ Aside0 (tollref07_All.l0 kq l0 x3_1 x4_1 = some r) ∧ Aside0 (kq ≤ k) ∧ Aside0 (Below w.heap.size w w'))
 case atStart => exact ⟨(0), (0), sd_, sd_, H', ⟨Nat.le_refl _⟩, ⟨bel_ HB.out⟩⟩
 case round =>
  clear H'
  try clear c1
  obtain ⟨x3_1, x4_1, rfl, rfl, HA, HK1, HB⟩ := hrel
  cases gk with
  | zero => exact absurd HA.out (by simp [tollref07_All.l0])
  | succ k1 =>
   have H := HA.out
   clear HA
   simp only [tollref07_All.l0] at H
   by_cases c2 : x4_1 < (l0.length : Int)
   ·rw [if_pos c2] at H
    have c2b0 : decide (x4_1 < (l0.length : Int)) = true := decide_eq_true c2
    clear c2
    by_cases c3 : 0 ≤ x4_1
    ·rw [if_pos c3] at H
     have c3b0 : decide (0 ≤ x4_1) = true := decide_eq_true c3
     clear c3
     replace H := Option.bind_eq_some_iff.mp H
     obtain ⟨t179, A40, H⟩ := H
     replace H : (if t179 = true then (if ((rd_T26 l0 x4_1).f0) > 3 then (tollref07_All.j1 k1 l0 (wrap64 (x3_1 + 1)) x4_1) else (tollref07_All.j1 k1 l0 x3_1 x4_1)) else (some false)) = some r := H
     have A4 := Aside0.mk A40
     clear A40
     by_cases c5 : t179 = true
     ·subst c5
      have H1 : (if ((rd_T26 l0 x4_1).f0) > 3 then (tollref07_All.j1 k1 l0 (wrap64 (x3_1 + 1)) x4_1) else (tollref07_All.j1 k1 l0 x3_1 x4_1)) = some r := by rw [if_pos rfl] at H; exact H
      clear H
      have H := H1
      clear H1
      have HC6 := Aside0.mk H
      clear H
      have p178 : 0 ≤ (x4_1 : Int) := of_decide_eq_true as_
      have q178 : x4_1 < (l0.length : Int) := of_decide_eq_true as_
      obtain ⟨ad178, e178, hx178_0, hx178_1, hx178_2, hx178_3, hx178_4, hx178_5, hx178_6, hx178_7⟩ := at_T26 HR0.out x4_1 p178 q178
      cases e178
      replace hx178_0 := (HB.out.cell (World.block_lt_of_cell? w _ hx178_0)).trans hx178_0
      replace hx178_1 := (HB.out.cell (World.block_lt_of_cell? w _ hx178_1)).trans hx178_1
      replace hx178_2 := (HB.out.cell (World.block_lt_of_cell? w _ hx178_2)).trans hx178_2
      replace hx178_3 := (HB.out.cell (World.block_lt_of_cell? w _ hx178_3)).trans hx178_3
      replace hx178_4 := (HB.out.cell (World.block_lt_of_cell? w _ hx178_4)).trans hx178_4
      replace hx178_5 := (HB.out.cell (World.block_lt_of_cell? w _ hx178_5)).trans hx178_5
      replace hx178_6 := (HB.out.cell (World.block_lt_of_cell? w _ hx178_6)).trans hx178_6
      replace hx178_7 := (HB.out.cell (World.block_lt_of_cell? w _ hx178_7)).trans hx178_7
      replace p178 := eq_true p178
      replace q178 := eq_true q178
      go_upto_if 23 with (first | ((with_reducible refine gate_callee (f := 11) rfl ?_); refine goesL_ (some 16) rfl rfl Tryz.func11 kr_ rfl #[.agg #[.int .i64 ((rd_T26 l0 x4_1).f0), .string ((rd_T26 l0 x4_1).f1), .string ((rd_T26 l0 x4_1).f2), .string ((rd_T26 l0 x4_1).f3), .int .i64 ((rd_T26 l0 x4_1).f4), .string ((rd_T26 l0 x4_1).f5), .bool ((rd_T26 l0 x4_1).f6), .int .i64 ((rd_T26 l0 x4_1).f7)]] rfl rl_ ?_; (with_reducible refine (tollref07_May.calls k1 ((rd_T26 l0 x4_1).f0) ((rd_T26 l0 x4_1).f1) ((rd_T26 l0 x4_1).f2) ((rd_T26 l0 x4_1).f3) ((rd_T26 l0 x4_1).f4) ((rd_T26 l0 x4_1).f5) ((rd_T26 l0 x4_1).f6) ((rd_T26 l0 x4_1).f7) true _ A4.out).mono ?_); rintro e w7 ⟨rfl, hb⟩; refine ⟨_, rfl, ?_⟩; have n0_ := am_ (below_step (bel_ HB.out) hb); clear HB; have HB := n0_; clear n0_; (try clear hb); (try clear hb2); (try clear hk); (try clear hi); have p180 : 0 ≤ (x4_1 : Int) := of_decide_eq_true as_; have q180 : x4_1 < (l0.length : Int) := of_decide_eq_true as_; obtain ⟨ad180, e180, hx180_0, hx180_1, hx180_2, hx180_3, hx180_4, hx180_5, hx180_6, hx180_7⟩ := at_T26 HR0.out x4_1 p180 q180; obtain rfl : ad178 = ad180 := (by injection e180); replace hx180_0 := (HB.out.cell (World.block_lt_of_cell? w _ hx180_0)).trans hx180_0; replace hx180_1 := (HB.out.cell (World.block_lt_of_cell? w _ hx180_1)).trans hx180_1; replace hx180_2 := (HB.out.cell (World.block_lt_of_cell? w _ hx180_2)).trans hx180_2; replace hx180_3 := (HB.out.cell (World.block_lt_of_cell? w _ hx180_3)).trans hx180_3; replace hx180_4 := (HB.out.cell (World.block_lt_of_cell? w _ hx180_4)).trans hx180_4; replace hx180_5 := (HB.out.cell (World.block_lt_of_cell? w _ hx180_5)).trans hx180_5; replace hx180_6 := (HB.out.cell (World.block_lt_of_cell? w _ hx180_6)).trans hx180_6; replace hx180_7 := (HB.out.cell (World.block_lt_of_cell? w _ hx180_7)).trans hx180_7; replace p180 := eq_true p180; replace q180 := eq_true q180))
      (try simp only [Act.put, List.setIfInBounds_toArray, List.set_cons_zero, List.set_cons_succ])
      go_cut [3] (fun v3 wc => ∃ (kq : Nat) (x3_5 : Int), v3 = .int .i64 x3_5 ∧ Aside0 (tollref07_All.j1 kq l0 x3_5 x4_1 = some r) ∧ Aside0 (kq ≤ k1) ∧ Aside0 (Below w.heap.size w wc))
      case first =>
       have H := HC6.out
       clear HC6
       by_cases c8 : ((rd_T26 l0 x4_1).f0) > 3
       ·rw [if_pos c8] at H
        have c8b0 : decide (3 < ((rd_T26 l0 x4_1).f0)) = true := decide_eq_true c8
        clear c8
        (first | rw [c8b0] | rw [c8b1] | rw [c8b2] | (simp only [i64_w, i32_w]; rw [c8b0]) | skip)
        have H' := Aside0.mk H
        clear H
        go_wp2
        go_meet
        case rel => exact ⟨_, (wrap64 (x3_1 + 1)), sd_, H', ⟨by have := HK1.out; first | omega | exact Nat.le_refl _⟩, ⟨bel_ HB.out⟩⟩
       ·rw [if_neg c8] at H
        have c8b0 : decide (3 < ((rd_T26 l0 x4_1).f0)) = false := decide_eq_false c8
        clear c8
        (first | rw [c8b0] | rw [c8b1] | rw [c8b2] | (simp only [i64_w, i32_w]; rw [c8b0]) | skip)
        have H' := Aside0.mk H
        clear H
        go_wp2
        go_meet
        case rel => exact ⟨_, (x3_1), sd_, H', ⟨by have := HK1.out; first | omega | exact Nat.le_refl _⟩, ⟨bel_ HB.out⟩⟩
      case rest =>
       clear HC6
       try clear c1
       try clear p1
       try clear q1
       try clear hx1
       try clear c2
       try clear c2b0
       try clear p2
       try clear c3
       try clear c3b0
       try clear c5
       try clear p6
       try clear c8
       try clear c8b0
       try clear c8b1
       try clear c8b2
       try clear hx178_0
       try clear hx178_1
       try clear hx178_2
       try clear hx178_3
       try clear hx178_4
       try clear hx178_5
       try clear hx178_6
       try clear hx178_7
       try clear hx180_0
       try clear hx180_1
       try clear hx180_2
       try clear hx180_3
       try clear hx180_4
       try clear hx180_5
       try clear hx180_6
       try clear hx180_7
       try clear p178
       try clear p180
       try clear q178
       try clear q180
       obtain ⟨kq, x3_5, rfl, HA, HJ5, HB⟩ := hcut
       cases kq with
       | zero => exact absurd HA.out (by simp [tollref07_All.j1])
       | succ kj5 =>
        have H := HA.out
        clear HA
        simp only [tollref07_All.j1] at H
        have H' := Aside0.mk H
        clear H
        go_wp2
        go_loopg [5] kj5 (fun kq v5 w' => ∃ (x5_3 : Int), v5 = .int .i64 x5_3 ∧ Aside0 (tollref07_All.l1 kq l0 x3_5 x4_1 x5_3 = some r) ∧ Aside0 (kq ≤ kj5) ∧ Aside0 (Below w.heap.size w w'))
        case atStart => exact ⟨(0), sd_, H', ⟨Nat.le_refl _⟩, ⟨bel_ HB.out⟩⟩
        case round =>
         clear H'
         try clear c1
         try clear p1
         try clear q1
         try clear hx1
         try clear c2
         try clear c2b0
         try clear p2
         try clear c3
         try clear c3b0
         try clear c5
         try clear p6
         try clear c8
         try clear c8b0
         try clear c8b1
         try clear c8b2
         try clear hx178_0
         try clear hx178_1
         try clear hx178_2
         try clear hx178_3
         try clear hx178_4
         try clear hx178_5
         try clear hx178_6
         try clear hx178_7
         try clear hx180_0
         try clear hx180_1
         try clear hx180_2
         try clear hx180_3
         try clear hx180_4
         try clear hx180_5
         try clear hx180_6
         try clear hx180_7
         try clear p1
         try clear p178
         try clear p180
         try clear p2
         try clear p6
         try clear q1
         try clear q178
         try clear q180
         obtain ⟨x5_3, rfl, HA, HK3, HB⟩ := hrel
         cases gk with
         | zero => exact absurd HA.out (by simp [tollref07_All.l1])
         | succ k3 =>
          have H := HA.out
          clear HA
          simp only [tollref07_All.l1] at H
          by_cases c9 : x5_3 < x4_1
          ·rw [if_pos c9] at H
           have c9b0 : decide (x5_3 < x4_1) = true := decide_eq_true c9
           clear c9
           by_cases c10 : 0 ≤ x5_3
           ·rw [if_pos c10] at H
            have c10b0 : decide (0 ≤ x5_3) = true := decide_eq_true c10
            clear c10
            by_cases c11 : x5_3 < (l0.length : Int)
            ·rw [if_pos c11] at H
             have c11b0 : decide (x5_3 < (l0.length : Int)) = true := decide_eq_true c11
             clear c11
             by_cases c12 : 0 ≤ x4_1
             ·rw [if_pos c12] at H
              have c12b0 : decide (0 ≤ x4_1) = true := decide_eq_true c12
              clear c12
              by_cases c13 : x4_1 < (l0.length : Int)
              ·rw [if_pos c13] at H
               have c13b0 : decide (x4_1 < (l0.length : Int)) = true := decide_eq_true c13
               clear c13
               by_cases c14 : ((rd_T26 l0 x5_3).f0) = ((rd_T26 l0 x4_1).f0)
               ·rw [if_pos c14] at H
                have c14b0 : (((rd_T26 l0 x5_3).f0) == ((rd_T26 l0 x4_1).f0)) = true := beq_iff_eq.mpr c14
                have c14b1 : (((rd_T26 l0 x5_3).f0) != ((rd_T26 l0 x4_1).f0)) = false := bne_eq_false_iff_eq.mpr c14
                clear c14
                replace H := Option.bind_eq_some_iff.mp H
                obtain ⟨t185, A150, H⟩ := H
                replace H : (if t185 = true then (some false) else (tollref07_All.l1 k3 l0 x3_5 x4_1 (wrap64 (x5_3 + 1)))) = some r := H
                have A15 := Aside0.mk A150
                clear A150
                by_cases c16 : t185 = true
                ·subst c16
                 have H1 : (some false) = some r := by rw [if_pos rfl] at H; exact H
                 clear H
                 have H := H1
                 clear H1
                 obtain rfl := Option.some.inj H
                 try go_wp2
                 have n0_ := am_ (below_drew1 HB.out)
                 clear HB
                 have HB := n0_
                 clear n0_
                 have p181 : 0 ≤ (x5_3 : Int) := of_decide_eq_true as_
                 have q181 : x5_3 < (l0.length : Int) := of_decide_eq_true as_
                 obtain ⟨ad181, e181, hx181_0, hx181_1, hx181_2, hx181_3, hx181_4, hx181_5, hx181_6, hx181_7⟩ := at_T26 HR0.out x5_3 p181 q181
                 have hw181_7 := hx181_7
                 have hw181_6 := hx181_6
                 have hw181_5 := hx181_5
                 have hw181_4 := hx181_4
                 have hw181_3 := hx181_3
                 have hw181_2 := hx181_2
                 have hw181_1 := hx181_1
                 have hw181_0 := hx181_0
                 obtain rfl : ad178 = ad181 := (by injection e181)
                 replace hx181_0 := (HB.out.cell (World.block_lt_of_cell? w _ hx181_0)).trans hx181_0
                 replace hx181_1 := (HB.out.cell (World.block_lt_of_cell? w _ hx181_1)).trans hx181_1
                 replace hx181_2 := (HB.out.cell (World.block_lt_of_cell? w _ hx181_2)).trans hx181_2
                 replace hx181_3 := (HB.out.cell (World.block_lt_of_cell? w _ hx181_3)).trans hx181_3
                 replace hx181_4 := (HB.out.cell (World.block_lt_of_cell? w _ hx181_4)).trans hx181_4
                 replace hx181_5 := (HB.out.cell (World.block_lt_of_cell? w _ hx181_5)).trans hx181_5
                 replace hx181_6 := (HB.out.cell (World.block_lt_of_cell? w _ hx181_6)).trans hx181_6
                 replace hx181_7 := (HB.out.cell (World.block_lt_of_cell? w _ hx181_7)).trans hx181_7
                 replace p181 := eq_true p181
                 replace q181 := eq_true q181
                 have p182 : 0 ≤ (x4_1 : Int) := of_decide_eq_true as_
                 have q182 : x4_1 < (l0.length : Int) := of_decide_eq_true as_
                 obtain ⟨ad182, e182, hx182_0, hx182_1, hx182_2, hx182_3, hx182_4, hx182_5, hx182_6, hx182_7⟩ := at_T26 HR0.out x4_1 p182 q182
                 have hw182_7 := hx182_7
                 have hw182_6 := hx182_6
                 have hw182_5 := hx182_5
                 have hw182_4 := hx182_4
                 have hw182_3 := hx182_3
                 have hw182_2 := hx182_2
                 have hw182_1 := hx182_1
                 have hw182_0 := hx182_0
                 obtain rfl : ad178 = ad182 := (by injection e182)
                 replace hx182_0 := (HB.out.cell (World.block_lt_of_cell? w _ hx182_0)).trans hx182_0
                 replace hx182_1 := (HB.out.cell (World.block_lt_of_cell? w _ hx182_1)).trans hx182_1
                 replace hx182_2 := (HB.out.cell (World.block_lt_of_cell? w _ hx182_2)).trans hx182_2
                 replace hx182_3 := (HB.out.cell (World.block_lt_of_cell? w _ hx182_3)).trans hx182_3
                 replace hx182_4 := (HB.out.cell (World.block_lt_of_cell? w _ hx182_4)).trans hx182_4
                 replace hx182_5 := (HB.out.cell (World.block_lt_of_cell? w _ hx182_5)).trans hx182_5
                 replace hx182_6 := (HB.out.cell (World.block_lt_of_cell? w _ hx182_6)).trans hx182_6
                 replace hx182_7 := (HB.out.cell (World.block_lt_of_cell? w _ hx182_7)).trans hx182_7
                 replace p182 := eq_true p182
                 replace q182 := eq_true q182
                 have p183 : 0 ≤ (x5_3 : Int) := of_decide_eq_true as_
                 have q183 : x5_3 < (l0.length : Int) := of_decide_eq_true as_
                 obtain ⟨ad183, e183, hx183_0, hx183_1, hx183_2, hx183_3, hx183_4, hx183_5, hx183_6, hx183_7⟩ := at_T26 HR0.out x5_3 p183 q183
                 have hw183_7 := hx183_7
                 have hw183_6 := hx183_6
                 have hw183_5 := hx183_5
                 have hw183_4 := hx183_4
                 have hw183_3 := hx183_3
                 have hw183_2 := hx183_2
                 have hw183_1 := hx183_1
                 have hw183_0 := hx183_0
                 obtain rfl : ad178 = ad183 := (by injection e183)
                 replace hx183_0 := (HB.out.cell (World.block_lt_of_cell? w _ hx183_0)).trans hx183_0
                 replace hx183_1 := (HB.out.cell (World.block_lt_of_cell? w _ hx183_1)).trans hx183_1
                 replace hx183_2 := (HB.out.cell (World.block_lt_of_cell? w _ hx183_2)).trans hx183_2
                 replace hx183_3 := (HB.out.cell (World.block_lt_of_cell? w _ hx183_3)).trans hx183_3
                 replace hx183_4 := (HB.out.cell (World.block_lt_of_cell? w _ hx183_4)).trans hx183_4
                 replace hx183_5 := (HB.out.cell (World.block_lt_of_cell? w _ hx183_5)).trans hx183_5
                 replace hx183_6 := (HB.out.cell (World.block_lt_of_cell? w _ hx183_6)).trans hx183_6
                 replace hx183_7 := (HB.out.cell (World.block_lt_of_cell? w _ hx183_7)).trans hx183_7
                 replace p183 := eq_true p183
                 replace q183 := eq_true q183
                 have p184 : 0 ≤ (x4_1 : Int) := of_decide_eq_true as_
                 have q184 : x4_1 < (l0.length : Int) := of_decide_eq_true as_
                 obtain ⟨ad184, e184, hx184_0, hx184_1, hx184_2, hx184_3, hx184_4, hx184_5, hx184_6, hx184_7⟩ := at_T26 HR0.out x4_1 p184 q184
                 have hw184_7 := hx184_7
                 have hw184_6 := hx184_6
                 have hw184_5 := hx184_5
                 have hw184_4 := hx184_4
                 have hw184_3 := hx184_3
                 have hw184_2 := hx184_2
                 have hw184_1 := hx184_1
                 have hw184_0 := hx184_0
                 obtain rfl : ad178 = ad184 := (by injection e184)
                 replace hx184_0 := (HB.out.cell (World.block_lt_of_cell? w _ hx184_0)).trans hx184_0
                 replace hx184_1 := (HB.out.cell (World.block_lt_of_cell? w _ hx184_1)).trans hx184_1
                 replace hx184_2 := (HB.out.cell (World.block_lt_of_cell? w _ hx184_2)).trans hx184_2
                 replace hx184_3 := (HB.out.cell (World.block_lt_of_cell? w _ hx184_3)).trans hx184_3
                 replace hx184_4 := (HB.out.cell (World.block_lt_of_cell? w _ hx184_4)).trans hx184_4
                 replace hx184_5 := (HB.out.cell (World.block_lt_of_cell? w _ hx184_5)).trans hx184_5
                 replace hx184_6 := (HB.out.cell (World.block_lt_of_cell? w _ hx184_6)).trans hx184_6
                 replace hx184_7 := (HB.out.cell (World.block_lt_of_cell? w _ hx184_7)).trans hx184_7
                 replace p184 := eq_true p184
                 replace q184 := eq_true q184
                 refine start_ (n := 24) (S := fun w' => w'.cell? (ad178.add ((x5_3).toNat * 8)) = some (.int .i64 ((rd_T26 l0 x5_3).f0)) ∧ w'.cell? ⟨(ad178.add ((x5_3).toNat * 8)).block, (ad178.add ((x5_3).toNat * 8)).off + 1, none⟩ = some (.string ((rd_T26 l0 x5_3).f1)) ∧ w'.cell? ⟨(ad178.add ((x5_3).toNat * 8)).block, (ad178.add ((x5_3).toNat * 8)).off + 2, none⟩ = some (.string ((rd_T26 l0 x5_3).f2)) ∧ w'.cell? ⟨(ad178.add ((x5_3).toNat * 8)).block, (ad178.add ((x5_3).toNat * 8)).off + 3, none⟩ = some (.string ((rd_T26 l0 x5_3).f3)) ∧ w'.cell? ⟨(ad178.add ((x5_3).toNat * 8)).block, (ad178.add ((x5_3).toNat * 8)).off + 4, none⟩ = some (.int .i64 ((rd_T26 l0 x5_3).f4)) ∧ w'.cell? ⟨(ad178.add ((x5_3).toNat * 8)).block, (ad178.add ((x5_3).toNat * 8)).off + 5, none⟩ = some (.string ((rd_T26 l0 x5_3).f5)) ∧ w'.cell? ⟨(ad178.add ((x5_3).toNat * 8)).block, (ad178.add ((x5_3).toNat * 8)).off + 6, none⟩ = some (.bool ((rd_T26 l0 x5_3).f6)) ∧ w'.cell? ⟨(ad178.add ((x5_3).toNat * 8)).block, (ad178.add ((x5_3).toNat * 8)).off + 7, none⟩ = some (.int .i64 ((rd_T26 l0 x5_3).f7)) ∧ w'.cell? (ad178.add ((x4_1).toNat * 8)) = some (.int .i64 ((rd_T26 l0 x4_1).f0)) ∧ w'.cell? ⟨(ad178.add ((x4_1).toNat * 8)).block, (ad178.add ((x4_1).toNat * 8)).off + 1, none⟩ = some (.string ((rd_T26 l0 x4_1).f1)) ∧ w'.cell? ⟨(ad178.add ((x4_1).toNat * 8)).block, (ad178.add ((x4_1).toNat * 8)).off + 2, none⟩ = some (.string ((rd_T26 l0 x4_1).f2)) ∧ w'.cell? ⟨(ad178.add ((x4_1).toNat * 8)).block, (ad178.add ((x4_1).toNat * 8)).off + 3, none⟩ = some (.string ((rd_T26 l0 x4_1).f3)) ∧ w'.cell? ⟨(ad178.add ((x4_1).toNat * 8)).block, (ad178.add ((x4_1).toNat * 8)).off + 4, none⟩ = some (.int .i64 ((rd_T26 l0 x4_1).f4)) ∧ w'.cell? ⟨(ad178.add ((x4_1).toNat * 8)).block, (ad178.add ((x4_1).toNat * 8)).off + 5, none⟩ = some (.string ((rd_T26 l0 x4_1).f5)) ∧ w'.cell? ⟨(ad178.add ((x4_1).toNat * 8)).block, (ad178.add ((x4_1).toNat * 8)).off + 6, none⟩ = some (.bool ((rd_T26 l0 x4_1).f6)) ∧ w'.cell? ⟨(ad178.add ((x4_1).toNat * 8)).block, (ad178.add ((x4_1).toNat * 8)).off + 7, none⟩ = some (.int .i64 ((rd_T26 l0 x4_1).f7)) ∧ w'.cell? (ad178.add ((x5_3).toNat * 8)) = some (.int .i64 ((rd_T26 l0 x5_3).f0)) ∧ w'.cell? ⟨(ad178.add ((x5_3).toNat * 8)).block, (ad178.add ((x5_3).toNat * 8)).off + 1, none⟩ = some (.string ((rd_T26 l0 x5_3).f1)) ∧ w'.cell? ⟨(ad178.add ((x5_3).toNat * 8)).block, (ad178.add ((x5_3).toNat * 8)).off + 2, none⟩ = some (.string ((rd_T26 l0 x5_3).f2)) ∧ w'.cell? ⟨(ad178.add ((x5_3).toNat * 8)).block, (ad178.add ((x5_3).toNat * 8)).off + 3, none⟩ = some (.string ((rd_T26 l0 x5_3).f3)) ∧ w'.cell? ⟨(ad178.add ((x5_3).toNat * 8)).block, (ad178.add ((x5_3).toNat * 8)).off + 4, none⟩ = some (.int .i64 ((rd_T26 l0 x5_3).f4)) ∧ w'.cell? ⟨(ad178.add ((x5_3).toNat * 8)).block, (ad178.add ((x5_3).toNat * 8)).off + 5, none⟩ = some (.string ((rd_T26 l0 x5_3).f5)) ∧ w'.cell? ⟨(ad178.add ((x5_3).toNat * 8)).block, (ad178.add ((x5_3).toNat * 8)).off + 6, none⟩ = some (.bool ((rd_T26 l0 x5_3).f6)) ∧ w'.cell? ⟨(ad178.add ((x5_3).toNat * 8)).block, (ad178.add ((x5_3).toNat * 8)).off + 7, none⟩ = some (.int .i64 ((rd_T26 l0 x5_3).f7)) ∧ w'.cell? (ad178.add ((x4_1).toNat * 8)) = some (.int .i64 ((rd_T26 l0 x4_1).f0)) ∧ w'.cell? ⟨(ad178.add ((x4_1).toNat * 8)).block, (ad178.add ((x4_1).toNat * 8)).off + 1, none⟩ = some (.string ((rd_T26 l0 x4_1).f1)) ∧ w'.cell? ⟨(ad178.add ((x4_1).toNat * 8)).block, (ad178.add ((x4_1).toNat * 8)).off + 2, none⟩ = some (.string ((rd_T26 l0 x4_1).f2)) ∧ w'.cell? ⟨(ad178.add ((x4_1).toNat * 8)).block, (ad178.add ((x4_1).toNat * 8)).off + 3, none⟩ = some (.string ((rd_T26 l0 x4_1).f3)) ∧ w'.cell? ⟨(ad178.add ((x4_1).toNat * 8)).block, (ad178.add ((x4_1).toNat * 8)).off + 4, none⟩ = some (.int .i64 ((rd_T26 l0 x4_1).f4)) ∧ w'.cell? ⟨(ad178.add ((x4_1).toNat * 8)).block, (ad178.add ((x4_1).toNat * 8)).off + 5, none⟩ = some (.string ((rd_T26 l0 x4_1).f5)) ∧ w'.cell? ⟨(ad178.add ((x4_1).toNat * 8)).block, (ad178.add ((x4_1).toNat * 8)).off + 6, none⟩ = some (.bool ((rd_T26 l0 x4_1).f6)) ∧ w'.cell? ⟨(ad178.add ((x4_1).toNat * 8)).block, (ad178.add ((x4_1).toNat * 8)).off + 7, none⟩ = some (.int .i64 ((rd_T26 l0 x4_1).f7))) (ds := []) #[false, false, false, false, false, false, false, false, false, false, false, false, false, false, false, false, false, false, false, false, false, false, false, false] kr_ rfl rfl ⟨((HB.out.cell (World.block_lt_of_cell? w _ hw181_0)).trans hw181_0), ((HB.out.cell (World.block_lt_of_cell? w _ hw181_1)).trans hw181_1), ((HB.out.cell (World.block_lt_of_cell? w _ hw181_2)).trans hw181_2), ((HB.out.cell (World.block_lt_of_cell? w _ hw181_3)).trans hw181_3), ((HB.out.cell (World.block_lt_of_cell? w _ hw181_4)).trans hw181_4), ((HB.out.cell (World.block_lt_of_cell? w _ hw181_5)).trans hw181_5), ((HB.out.cell (World.block_lt_of_cell? w _ hw181_6)).trans hw181_6), ((HB.out.cell (World.block_lt_of_cell? w _ hw181_7)).trans hw181_7), ((HB.out.cell (World.block_lt_of_cell? w _ hw182_0)).trans hw182_0), ((HB.out.cell (World.block_lt_of_cell? w _ hw182_1)).trans hw182_1), ((HB.out.cell (World.block_lt_of_cell? w _ hw182_2)).trans hw182_2), ((HB.out.cell (World.block_lt_of_cell? w _ hw182_3)).trans hw182_3), ((HB.out.cell (World.block_lt_of_cell? w _ hw182_4)).trans hw182_4), ((HB.out.cell (World.block_lt_of_cell? w _ hw182_5)).trans hw182_5), ((HB.out.cell (World.block_lt_of_cell? w _ hw182_6)).trans hw182_6), ((HB.out.cell (World.block_lt_of_cell? w _ hw182_7)).trans hw182_7), ((HB.out.cell (World.block_lt_of_cell? w _ hw183_0)).trans hw183_0), ((HB.out.cell (World.block_lt_of_cell? w _ hw183_1)).trans hw183_1), ((HB.out.cell (World.block_lt_of_cell? w _ hw183_2)).trans hw183_2), ((HB.out.cell (World.block_lt_of_cell? w _ hw183_3)).trans hw183_3), ((HB.out.cell (World.block_lt_of_cell? w _ hw183_4)).trans hw183_4), ((HB.out.cell (World.block_lt_of_cell? w _ hw183_5)).trans hw183_5), ((HB.out.cell (World.block_lt_of_cell? w _ hw183_6)).trans hw183_6), ((HB.out.cell (World.block_lt_of_cell? w _ hw183_7)).trans hw183_7), ((HB.out.cell (World.block_lt_of_cell? w _ hw184_0)).trans hw184_0), ((HB.out.cell (World.block_lt_of_cell? w _ hw184_1)).trans hw184_1), ((HB.out.cell (World.block_lt_of_cell? w _ hw184_2)).trans hw184_2), ((HB.out.cell (World.block_lt_of_cell? w _ hw184_3)).trans hw184_3), ((HB.out.cell (World.block_lt_of_cell? w _ hw184_4)).trans hw184_4), ((HB.out.cell (World.block_lt_of_cell? w _ hw184_5)).trans hw184_5), ((HB.out.cell (World.block_lt_of_cell? w _ hw184_6)).trans hw184_6), ((HB.out.cell (World.block_lt_of_cell? w _ hw184_7)).trans hw184_7)⟩ (fun hHeld => ?_); refine with_tabW tollref07_All.tab12 tollref07_All.bits12 (fun HT_ HW_ => ?_)
                 generalize wr.drew = w17 at HB hx181_0 hx181_1 hx181_2 hx181_3 hx181_4 hx181_5 hx181_6 hx181_7 hx182_0 hx182_1 hx182_2 hx182_3 hx182_4 hx182_5 hx182_6 hx182_7 hx183_0 hx183_1 hx183_2 hx183_3 hx183_4 hx183_5 hx183_6 hx183_7 hx184_0 hx184_1 hx184_2 hx184_3 hx184_4 hx184_5 hx184_6 hx184_7 hHeld ⊢
                 refine pure_ (i := 0) (N := some 31) (v := ?_) (a' := ?_) #[true, false, false, false, false, false, false, false, false, false, false, false, false, false, false, false, false, false, false, false, false, false, false, false] rfl rfl (any_of HT_.out kr_) (fun _ _ _ h => h) (Or.inl ⟨by rfl, ?_⟩) ?_ ?_
                 rotate_left
                 ·intro w'
                  go_simp
                  with_reducible rfl
                 rotate_left
                 ·simp only [Act.put, sx_, s0_, s1_, i64_w, i32_w]
                  rfl
                 refine pure_ (i := 1) (N := some 32) (v := ?_) (a' := ?_) #[true, true, false, false, false, false, false, false, false, false, false, false, false, false, false, false, false, false, false, false, false, false, false, false] rfl rfl (any_of HT_.out kr_) (fun _ _ _ h => h) (Or.inl ⟨by rfl, ?_⟩) ?_ ?_
                 rotate_left
                 ·intro w'
                  go_simp
                  with_reducible rfl
                 rotate_left
                 ·simp only [Act.put, sx_, s0_, s1_, i64_w, i32_w]
                  rfl
                 refine pure_ (i := 2) (N := some 33) (v := ?_) (a' := ?_) #[true, true, true, false, false, false, false, false, false, false, false, false, false, false, false, false, false, false, false, false, false, false, false, false] rfl rfl (any_of HT_.out kr_) (fun _ _ _ h => h) (Or.inl ⟨by rfl, ?_⟩) ?_ ?_
                 rotate_left
                 ·intro w'
                  go_simp
                  with_reducible rfl
                 rotate_left
                 ·simp only [Act.put, sx_, s0_, s1_, i64_w, i32_w]
                  rfl
                 refine pure_ (i := 3) (N := some 34) (v := ?_) (a' := ?_) #[true, true, true, true, false, false, false, false, false, false, false, false, false, false, false, false, false, false, false, false, false, false, false, false] rfl rfl (any_of HT_.out kr_) (fun _ _ _ h => h) (Or.inl ⟨by rfl, ?_⟩) ?_ ?_
                 rotate_left
                 ·intro w'
                  go_simp
                  with_reducible rfl
                 rotate_left
                 ·simp only [Act.put, sx_, s0_, s1_, i64_w, i32_w]
                  rfl
                 refine pure_ (i := 5) (N := some 36) (v := ?_) (a' := ?_) #[true, true, true, true, false, true, false, false, false, false, false, false, false, false, false, false, false, false, false, false, false, false, false, false] rfl rfl (any_of HT_.out kr_) (fun _ _ _ h => h) (Or.inl ⟨by rfl, ?_⟩) ?_ ?_
                 rotate_left
                 ·intro w'
                  go_simp
                  with_reducible rfl
                 rotate_left
                 ·simp only [Act.put, sx_, s0_, s1_, i64_w, i32_w]
                  rfl
                 refine pure_ (i := 6) (N := some 37) (v := ?_) (a' := ?_) #[true, true, true, true, false, true, true, false, false, false, false, false, false, false, false, false, false, false, false, false, false, false, false, false] rfl rfl (any_of HT_.out kr_) (fun _ _ _ h => h) (Or.inl ⟨by rfl, ?_⟩) ?_ ?_
                 rotate_left
                 ·intro w'
                  go_simp
                  with_reducible rfl
                 rotate_left
                 ·simp only [Act.put, sx_, s0_, s1_, i64_w, i32_w]
                  rfl
                 refine pure_ (i := 7) (N := some 38) (v := ?_) (a' := ?_) #[true, true, true, true, false, true, true, true, false, false, false, false, false, false, false, false, false, false, false, false, false, false, false, false] rfl rfl (any_of HT_.out kr_) (fun _ _ _ h => h) (Or.inl ⟨by rfl, ?_⟩) ?_ ?_
                 rotate_left
                 ·intro w'
                  go_simp
                  with_reducible rfl
                 rotate_left
                 ·simp only [Act.put, sx_, s0_, s1_, i64_w, i32_w]
                  rfl
                 refine pure_ (i := 8) (N := some 39) (v := ?_) (a' := ?_) #[true, true, true, true, false, true, true, true, true, false, false, false, false, false, false, false, false, false, false, false, false, false, false, false] rfl rfl (any_of HT_.out kr_) (fun _ _ _ h => h) (Or.inl ⟨by rfl, ?_⟩) ?_ ?_
                 rotate_left
                 ·intro w'
                  go_simp
                  with_reducible rfl
                 rotate_left
                 ·simp only [Act.put, sx_, s0_, s1_, i64_w, i32_w]
                  rfl
                 refine take_ (i := 4) (N := some 35) (v := ?_) (a' := ?_) #[true, true, true, true, true, true, true, true, true, false, false, false, false, false, false, false, false, false, false, false, false, false, false, false] rfl rfl (take_ofW HT_.out HW_.out kr_) (fun _ _ _ h => h) (Or.inl ⟨by rfl, ?_⟩) hHeld ?_ ?_
                 rotate_left
                 ·rintro w' ⟨s0, s1, s2, s3, s4, s5, s6, s7, s8, s9, s10, s11, s12, s13, s14, s15, s16, s17, s18, s19, s20, s21, s22, s23, s24, s25, s26, s27, s28, s29, s30, s31⟩
                  go_simp
                  with_reducible rfl
                 rotate_left
                 ·simp only [Act.put, sx_, s0_, s1_, i64_w, i32_w]
                  rfl
                 refine take_ (i := 9) (N := some 40) (v := ?_) (a' := ?_) #[true, true, true, true, true, true, true, true, true, true, false, false, false, false, false, false, false, false, false, false, false, false, false, false] rfl rfl (take_ofW HT_.out HW_.out kr_) (fun _ _ _ h => h) (Or.inl ⟨by rfl, ?_⟩) hHeld ?_ ?_
                 rotate_left
                 ·rintro w' ⟨s0, s1, s2, s3, s4, s5, s6, s7, s8, s9, s10, s11, s12, s13, s14, s15, s16, s17, s18, s19, s20, s21, s22, s23, s24, s25, s26, s27, s28, s29, s30, s31⟩
                  go_simp
                  with_reducible rfl
                 rotate_left
                 ·simp only [Act.put, sx_, s0_, s1_, i64_w, i32_w]
                  rfl
                 refine pure_ (i := 10) (N := some 41) (v := ?_) (a' := ?_) #[true, true, true, true, true, true, true, true, true, true, true, false, false, false, false, false, false, false, false, false, false, false, false, false] rfl rfl (any_of HT_.out kr_) (fun _ _ _ h => h) (Or.inl ⟨by rfl, ?_⟩) ?_ ?_
                 rotate_left
                 ·intro w'
                  go_simp
                  with_reducible rfl
                 rotate_left
                 ·simp only [Act.put, sx_, s0_, s1_, i64_w, i32_w]
                  rfl
                 refine pure_ (i := 11) (N := some 42) (v := ?_) (a' := ?_) #[true, true, true, true, true, true, true, true, true, true, true, true, false, false, false, false, false, false, false, false, false, false, false, false] rfl rfl (any_of HT_.out kr_) (fun _ _ _ h => h) (Or.inl ⟨by rfl, ?_⟩) ?_ ?_
                 rotate_left
                 ·intro w'
                  go_simp
                  with_reducible rfl
                 rotate_left
                 ·simp only [Act.put, sx_, s0_, s1_, i64_w, i32_w]
                  rfl
                 refine pure_ (i := 12) (N := some 43) (v := ?_) (a' := ?_) #[true, true, true, true, true, true, true, true, true, true, true, true, true, false, false, false, false, false, false, false, false, false, false, false] rfl rfl (any_of HT_.out kr_) (fun _ _ _ h => h) (Or.inl ⟨by rfl, ?_⟩) ?_ ?_
                 rotate_left
                 ·intro w'
                  go_simp
                  with_reducible rfl
                 rotate_left
                 ·simp only [Act.put, sx_, s0_, s1_, i64_w, i32_w]
                  rfl
                 refine pure_ (i := 13) (N := some 44) (v := ?_) (a' := ?_) #[true, true, true, true, true, true, true, true, true, true, true, true, true, true, false, false, false, false, false, false, false, false, false, false] rfl rfl (any_of HT_.out kr_) (fun _ _ _ h => h) (Or.inl ⟨by rfl, ?_⟩) ?_ ?_
                 rotate_left
                 ·intro w'
                  go_simp
                  with_reducible rfl
                 rotate_left
                 ·simp only [Act.put, sx_, s0_, s1_, i64_w, i32_w]
                  rfl
                 refine pure_ (i := 14) (N := some 45) (v := ?_) (a' := ?_) #[true, true, true, true, true, true, true, true, true, true, true, true, true, true, true, false, false, false, false, false, false, false, false, false] rfl rfl (any_of HT_.out kr_) (fun _ _ _ h => h) (Or.inl ⟨by rfl, ?_⟩) ?_ ?_
                 rotate_left
                 ·intro w'
                  go_simp
                  with_reducible rfl
                 rotate_left
                 ·simp only [Act.put, sx_, s0_, s1_, i64_w, i32_w]
                  rfl
                 refine pure_ (i := 15) (N := some 46) (v := ?_) (a' := ?_) #[true, true, true, true, true, true, true, true, true, true, true, true, true, true, true, true, false, false, false, false, false, false, false, false] rfl rfl (any_of HT_.out kr_) (fun _ _ _ h => h) (Or.inl ⟨by rfl, ?_⟩) ?_ ?_
                 rotate_left
                 ·intro w'
                  go_simp
                  with_reducible rfl
                 rotate_left
                 ·simp only [Act.put, sx_, s0_, s1_, i64_w, i32_w]
                  rfl
                 refine pure_ (i := 17) (N := some 48) (v := ?_) (a' := ?_) #[true, true, true, true, true, true, true, true, true, true, true, true, true, true, true, true, false, true, false, false, false, false, false, false] rfl rfl (any_of HT_.out kr_) (fun _ _ _ h => h) (Or.inl ⟨by rfl, ?_⟩) ?_ ?_
                 rotate_left
                 ·intro w'
                  go_simp
                  with_reducible rfl
                 rotate_left
                 ·simp only [Act.put, sx_, s0_, s1_, i64_w, i32_w]
                  rfl
                 refine pure_ (i := 18) (N := some 49) (v := ?_) (a' := ?_) #[true, true, true, true, true, true, true, true, true, true, true, true, true, true, true, true, false, true, true, false, false, false, false, false] rfl rfl (any_of HT_.out kr_) (fun _ _ _ h => h) (Or.inl ⟨by rfl, ?_⟩) ?_ ?_
                 rotate_left
                 ·intro w'
                  go_simp
                  with_reducible rfl
                 rotate_left
                 ·simp only [Act.put, sx_, s0_, s1_, i64_w, i32_w]
                  rfl
                 refine pure_ (i := 19) (N := some 50) (v := ?_) (a' := ?_) #[true, true, true, true, true, true, true, true, true, true, true, true, true, true, true, true, false, true, true, true, false, false, false, false] rfl rfl (any_of HT_.out kr_) (fun _ _ _ h => h) (Or.inl ⟨by rfl, ?_⟩) ?_ ?_
                 rotate_left
                 ·intro w'
                  go_simp
                  with_reducible rfl
                 rotate_left
                 ·simp only [Act.put, sx_, s0_, s1_, i64_w, i32_w]
                  rfl
                 refine pure_ (i := 20) (N := some 51) (v := ?_) (a' := ?_) #[true, true, true, true, true, true, true, true, true, true, true, true, true, true, true, true, false, true, true, true, true, false, false, false] rfl rfl (any_of HT_.out kr_) (fun _ _ _ h => h) (Or.inl ⟨by rfl, ?_⟩) ?_ ?_
                 rotate_left
                 ·intro w'
                  go_simp
                  with_reducible rfl
                 rotate_left
                 ·simp only [Act.put, sx_, s0_, s1_, i64_w, i32_w]
                  rfl
                 refine take_ (i := 16) (N := some 47) (v := ?_) (a' := ?_) #[true, true, true, true, true, true, true, true, true, true, true, true, true, true, true, true, true, true, true, true, true, false, false, false] rfl rfl (take_ofW HT_.out HW_.out kr_) (fun _ _ _ h => h) (Or.inl ⟨by rfl, ?_⟩) hHeld ?_ ?_
                 rotate_left
                 ·rintro w' ⟨s0, s1, s2, s3, s4, s5, s6, s7, s8, s9, s10, s11, s12, s13, s14, s15, s16, s17, s18, s19, s20, s21, s22, s23, s24, s25, s26, s27, s28, s29, s30, s31⟩
                  go_simp
                  with_reducible rfl
                 rotate_left
                 ·simp only [Act.put, sx_, s0_, s1_, i64_w, i32_w]
                  rfl
                 refine take_ (i := 21) (N := some 52) (v := ?_) (a' := ?_) #[true, true, true, true, true, true, true, true, true, true, true, true, true, true, true, true, true, true, true, true, true, true, false, false] rfl rfl (take_ofW HT_.out HW_.out kr_) (fun _ _ _ h => h) (Or.inl ⟨by rfl, ?_⟩) hHeld ?_ ?_
                 rotate_left
                 ·rintro w' ⟨s0, s1, s2, s3, s4, s5, s6, s7, s8, s9, s10, s11, s12, s13, s14, s15, s16, s17, s18, s19, s20, s21, s22, s23, s24, s25, s26, s27, s28, s29, s30, s31⟩
                  go_simp
                  with_reducible rfl
                 rotate_left
                 ·simp only [Act.put, sx_, s0_, s1_, i64_w, i32_w]
                  rfl
                 refine one_ (i := 22) (N := some 53) #[true, true, true, true, true, true, true, true, true, true, true, true, true, true, true, true, true, true, true, true, true, true, true, false] rfl rfl (one_of HT_.out kr_) (by decide) (fun K hK => ?_)
                 refine goes_ Tryz.func23 kr_ rfl #[.string ((rd_T26 l0 x5_3).f1), .string ((rd_T26 l0 x4_1).f1)] (by rfl) rfl rfl rl_ ?_
                 with_reducible refine (tollref05_Same.calls k3 ((rd_T26 l0 x5_3).f1) ((rd_T26 l0 x4_1).f1) true _ A15.out).mono ?_
                 rintro e w18 ⟨rfl, hb⟩
                 refine ⟨_, rfl, ?_⟩
                 have n0_ := am_ (below_step (bel_ HB.out) hb)
                 clear HB
                 have HB := n0_
                 clear n0_
                 (try clear hb)
                 (try clear hb2)
                 (try clear hk)
                 (try clear hi)
                 refine hK.out _ _ ⟨((HB.out.cell (World.block_lt_of_cell? w _ hw181_0)).trans hw181_0), ((HB.out.cell (World.block_lt_of_cell? w _ hw181_1)).trans hw181_1), ((HB.out.cell (World.block_lt_of_cell? w _ hw181_2)).trans hw181_2), ((HB.out.cell (World.block_lt_of_cell? w _ hw181_3)).trans hw181_3), ((HB.out.cell (World.block_lt_of_cell? w _ hw181_4)).trans hw181_4), ((HB.out.cell (World.block_lt_of_cell? w _ hw181_5)).trans hw181_5), ((HB.out.cell (World.block_lt_of_cell? w _ hw181_6)).trans hw181_6), ((HB.out.cell (World.block_lt_of_cell? w _ hw181_7)).trans hw181_7), ((HB.out.cell (World.block_lt_of_cell? w _ hw182_0)).trans hw182_0), ((HB.out.cell (World.block_lt_of_cell? w _ hw182_1)).trans hw182_1), ((HB.out.cell (World.block_lt_of_cell? w _ hw182_2)).trans hw182_2), ((HB.out.cell (World.block_lt_of_cell? w _ hw182_3)).trans hw182_3), ((HB.out.cell (World.block_lt_of_cell? w _ hw182_4)).trans hw182_4), ((HB.out.cell (World.block_lt_of_cell? w _ hw182_5)).trans hw182_5), ((HB.out.cell (World.block_lt_of_cell? w _ hw182_6)).trans hw182_6), ((HB.out.cell (World.block_lt_of_cell? w _ hw182_7)).trans hw182_7), ((HB.out.cell (World.block_lt_of_cell? w _ hw183_0)).trans hw183_0), ((HB.out.cell (World.block_lt_of_cell? w _ hw183_1)).trans hw183_1), ((HB.out.cell (World.block_lt_of_cell? w _ hw183_2)).trans hw183_2), ((HB.out.cell (World.block_lt_of_cell? w _ hw183_3)).trans hw183_3), ((HB.out.cell (World.block_lt_of_cell? w _ hw183_4)).trans hw183_4), ((HB.out.cell (World.block_lt_of_cell? w _ hw183_5)).trans hw183_5), ((HB.out.cell (World.block_lt_of_cell? w _ hw183_6)).trans hw183_6), ((HB.out.cell (World.block_lt_of_cell? w _ hw183_7)).trans hw183_7), ((HB.out.cell (World.block_lt_of_cell? w _ hw184_0)).trans hw184_0), ((HB.out.cell (World.block_lt_of_cell? w _ hw184_1)).trans hw184_1), ((HB.out.cell (World.block_lt_of_cell? w _ hw184_2)).trans hw184_2), ((HB.out.cell (World.block_lt_of_cell? w _ hw184_3)).trans hw184_3), ((HB.out.cell (World.block_lt_of_cell? w _ hw184_4)).trans hw184_4), ((HB.out.cell (World.block_lt_of_cell? w _ hw184_5)).trans hw184_5), ((HB.out.cell (World.block_lt_of_cell? w _ hw184_6)).trans hw184_6), ((HB.out.cell (World.block_lt_of_cell? w _ hw184_7)).trans hw184_7)⟩ (fun hHeld => ?_)
                 clear hK K
                 refine norm_ (a' := ?_) ?_ ?_
                 rotate_left
                 ·show Act.put _ (some 53) _ = _
                  simp only [Act.put, sx_, s0_, s1_, i64_w, i32_w]
                  rfl
                 refine pure_ (i := 23) (N := some 54) (v := ?_) (a' := ?_) #[true, true, true, true, true, true, true, true, true, true, true, true, true, true, true, true, true, true, true, true, true, true, true, true] rfl rfl (any_of HT_.out kr_) (fun _ _ _ h => h) (Or.inl ⟨by rfl, ?_⟩) ?_ ?_
                 rotate_left
                 ·intro w'
                  go_simp
                  with_reducible rfl
                 rotate_left
                 ·simp only [Act.put, sx_, s0_, s1_, i64_w, i32_w]
                  rfl
                 refine done_ (done_of HT_.out kr_) ?_
                 try go_wp2
                 go_ret
                 exact ⟨fi_, bel_ HB.out⟩
                ·replace c16 := Bool.eq_false_iff.mpr c16
                 subst c16
                 have H1 : (tollref07_All.l1 k3 l0 x3_5 x4_1 (wrap64 (x5_3 + 1))) = some r := by rw [if_neg (show ¬ (false = true) by decide)] at H; exact H
                 clear H
                 have H := H1
                 clear H1
                 have H' := Aside0.mk H
                 clear H
                 try go_wp2
                 have n0_ := am_ (below_drew1 HB.out)
                 clear HB
                 have HB := n0_
                 clear n0_
                 have p181 : 0 ≤ (x5_3 : Int) := of_decide_eq_true as_
                 have q181 : x5_3 < (l0.length : Int) := of_decide_eq_true as_
                 obtain ⟨ad181, e181, hx181_0, hx181_1, hx181_2, hx181_3, hx181_4, hx181_5, hx181_6, hx181_7⟩ := at_T26 HR0.out x5_3 p181 q181
                 have hw181_7 := hx181_7
                 have hw181_6 := hx181_6
                 have hw181_5 := hx181_5
                 have hw181_4 := hx181_4
                 have hw181_3 := hx181_3
                 have hw181_2 := hx181_2
                 have hw181_1 := hx181_1
                 have hw181_0 := hx181_0
                 obtain rfl : ad178 = ad181 := (by injection e181)
                 replace hx181_0 := (HB.out.cell (World.block_lt_of_cell? w _ hx181_0)).trans hx181_0
                 replace hx181_1 := (HB.out.cell (World.block_lt_of_cell? w _ hx181_1)).trans hx181_1
                 replace hx181_2 := (HB.out.cell (World.block_lt_of_cell? w _ hx181_2)).trans hx181_2
                 replace hx181_3 := (HB.out.cell (World.block_lt_of_cell? w _ hx181_3)).trans hx181_3
                 replace hx181_4 := (HB.out.cell (World.block_lt_of_cell? w _ hx181_4)).trans hx181_4
                 replace hx181_5 := (HB.out.cell (World.block_lt_of_cell? w _ hx181_5)).trans hx181_5
                 replace hx181_6 := (HB.out.cell (World.block_lt_of_cell? w _ hx181_6)).trans hx181_6
                 replace hx181_7 := (HB.out.cell (World.block_lt_of_cell? w _ hx181_7)).trans hx181_7
                 replace p181 := eq_true p181
                 replace q181 := eq_true q181
                 have p182 : 0 ≤ (x4_1 : Int) := of_decide_eq_true as_
                 have q182 : x4_1 < (l0.length : Int) := of_decide_eq_true as_
                 obtain ⟨ad182, e182, hx182_0, hx182_1, hx182_2, hx182_3, hx182_4, hx182_5, hx182_6, hx182_7⟩ := at_T26 HR0.out x4_1 p182 q182
                 have hw182_7 := hx182_7
                 have hw182_6 := hx182_6
                 have hw182_5 := hx182_5
                 have hw182_4 := hx182_4
                 have hw182_3 := hx182_3
                 have hw182_2 := hx182_2
                 have hw182_1 := hx182_1
                 have hw182_0 := hx182_0
                 obtain rfl : ad178 = ad182 := (by injection e182)
                 replace hx182_0 := (HB.out.cell (World.block_lt_of_cell? w _ hx182_0)).trans hx182_0
                 replace hx182_1 := (HB.out.cell (World.block_lt_of_cell? w _ hx182_1)).trans hx182_1
                 replace hx182_2 := (HB.out.cell (World.block_lt_of_cell? w _ hx182_2)).trans hx182_2
                 replace hx182_3 := (HB.out.cell (World.block_lt_of_cell? w _ hx182_3)).trans hx182_3
                 replace hx182_4 := (HB.out.cell (World.block_lt_of_cell? w _ hx182_4)).trans hx182_4
                 replace hx182_5 := (HB.out.cell (World.block_lt_of_cell? w _ hx182_5)).trans hx182_5
                 replace hx182_6 := (HB.out.cell (World.block_lt_of_cell? w _ hx182_6)).trans hx182_6
                 replace hx182_7 := (HB.out.cell (World.block_lt_of_cell? w _ hx182_7)).trans hx182_7
                 replace p182 := eq_true p182
                 replace q182 := eq_true q182
                 have p183 : 0 ≤ (x5_3 : Int) := of_decide_eq_true as_
                 have q183 : x5_3 < (l0.length : Int) := of_decide_eq_true as_
                 obtain ⟨ad183, e183, hx183_0, hx183_1, hx183_2, hx183_3, hx183_4, hx183_5, hx183_6, hx183_7⟩ := at_T26 HR0.out x5_3 p183 q183
                 have hw183_7 := hx183_7
                 have hw183_6 := hx183_6
                 have hw183_5 := hx183_5
                 have hw183_4 := hx183_4
                 have hw183_3 := hx183_3
                 have hw183_2 := hx183_2
                 have hw183_1 := hx183_1
                 have hw183_0 := hx183_0
                 obtain rfl : ad178 = ad183 := (by injection e183)
                 replace hx183_0 := (HB.out.cell (World.block_lt_of_cell? w _ hx183_0)).trans hx183_0
                 replace hx183_1 := (HB.out.cell (World.block_lt_of_cell? w _ hx183_1)).trans hx183_1
                 replace hx183_2 := (HB.out.cell (World.block_lt_of_cell? w _ hx183_2)).trans hx183_2
                 replace hx183_3 := (HB.out.cell (World.block_lt_of_cell? w _ hx183_3)).trans hx183_3
                 replace hx183_4 := (HB.out.cell (World.block_lt_of_cell? w _ hx183_4)).trans hx183_4
                 replace hx183_5 := (HB.out.cell (World.block_lt_of_cell? w _ hx183_5)).trans hx183_5
                 replace hx183_6 := (HB.out.cell (World.block_lt_of_cell? w _ hx183_6)).trans hx183_6
                 replace hx183_7 := (HB.out.cell (World.block_lt_of_cell? w _ hx183_7)).trans hx183_7
                 replace p183 := eq_true p183
                 replace q183 := eq_true q183
                 have p184 : 0 ≤ (x4_1 : Int) := of_decide_eq_true as_
                 have q184 : x4_1 < (l0.length : Int) := of_decide_eq_true as_
                 obtain ⟨ad184, e184, hx184_0, hx184_1, hx184_2, hx184_3, hx184_4, hx184_5, hx184_6, hx184_7⟩ := at_T26 HR0.out x4_1 p184 q184
                 have hw184_7 := hx184_7
                 have hw184_6 := hx184_6
                 have hw184_5 := hx184_5
                 have hw184_4 := hx184_4
                 have hw184_3 := hx184_3
                 have hw184_2 := hx184_2
                 have hw184_1 := hx184_1
                 have hw184_0 := hx184_0
                 obtain rfl : ad178 = ad184 := (by injection e184)
                 replace hx184_0 := (HB.out.cell (World.block_lt_of_cell? w _ hx184_0)).trans hx184_0
                 replace hx184_1 := (HB.out.cell (World.block_lt_of_cell? w _ hx184_1)).trans hx184_1
                 replace hx184_2 := (HB.out.cell (World.block_lt_of_cell? w _ hx184_2)).trans hx184_2
                 replace hx184_3 := (HB.out.cell (World.block_lt_of_cell? w _ hx184_3)).trans hx184_3
                 replace hx184_4 := (HB.out.cell (World.block_lt_of_cell? w _ hx184_4)).trans hx184_4
                 replace hx184_5 := (HB.out.cell (World.block_lt_of_cell? w _ hx184_5)).trans hx184_5
                 replace hx184_6 := (HB.out.cell (World.block_lt_of_cell? w _ hx184_6)).trans hx184_6
                 replace hx184_7 := (HB.out.cell (World.block_lt_of_cell? w _ hx184_7)).trans hx184_7
                 replace p184 := eq_true p184
                 replace q184 := eq_true q184
                 refine start_ (n := 24) (S := fun w' => w'.cell? (ad178.add ((x5_3).toNat * 8)) = some (.int .i64 ((rd_T26 l0 x5_3).f0)) ∧ w'.cell? ⟨(ad178.add ((x5_3).toNat * 8)).block, (ad178.add ((x5_3).toNat * 8)).off + 1, none⟩ = some (.string ((rd_T26 l0 x5_3).f1)) ∧ w'.cell? ⟨(ad178.add ((x5_3).toNat * 8)).block, (ad178.add ((x5_3).toNat * 8)).off + 2, none⟩ = some (.string ((rd_T26 l0 x5_3).f2)) ∧ w'.cell? ⟨(ad178.add ((x5_3).toNat * 8)).block, (ad178.add ((x5_3).toNat * 8)).off + 3, none⟩ = some (.string ((rd_T26 l0 x5_3).f3)) ∧ w'.cell? ⟨(ad178.add ((x5_3).toNat * 8)).block, (ad178.add ((x5_3).toNat * 8)).off + 4, none⟩ = some (.int .i64 ((rd_T26 l0 x5_3).f4)) ∧ w'.cell? ⟨(ad178.add ((x5_3).toNat * 8)).block, (ad178.add ((x5_3).toNat * 8)).off + 5, none⟩ = some (.string ((rd_T26 l0 x5_3).f5)) ∧ w'.cell? ⟨(ad178.add ((x5_3).toNat * 8)).block, (ad178.add ((x5_3).toNat * 8)).off + 6, none⟩ = some (.bool ((rd_T26 l0 x5_3).f6)) ∧ w'.cell? ⟨(ad178.add ((x5_3).toNat * 8)).block, (ad178.add ((x5_3).toNat * 8)).off + 7, none⟩ = some (.int .i64 ((rd_T26 l0 x5_3).f7)) ∧ w'.cell? (ad178.add ((x4_1).toNat * 8)) = some (.int .i64 ((rd_T26 l0 x4_1).f0)) ∧ w'.cell? ⟨(ad178.add ((x4_1).toNat * 8)).block, (ad178.add ((x4_1).toNat * 8)).off + 1, none⟩ = some (.string ((rd_T26 l0 x4_1).f1)) ∧ w'.cell? ⟨(ad178.add ((x4_1).toNat * 8)).block, (ad178.add ((x4_1).toNat * 8)).off + 2, none⟩ = some (.string ((rd_T26 l0 x4_1).f2)) ∧ w'.cell? ⟨(ad178.add ((x4_1).toNat * 8)).block, (ad178.add ((x4_1).toNat * 8)).off + 3, none⟩ = some (.string ((rd_T26 l0 x4_1).f3)) ∧ w'.cell? ⟨(ad178.add ((x4_1).toNat * 8)).block, (ad178.add ((x4_1).toNat * 8)).off + 4, none⟩ = some (.int .i64 ((rd_T26 l0 x4_1).f4)) ∧ w'.cell? ⟨(ad178.add ((x4_1).toNat * 8)).block, (ad178.add ((x4_1).toNat * 8)).off + 5, none⟩ = some (.string ((rd_T26 l0 x4_1).f5)) ∧ w'.cell? ⟨(ad178.add ((x4_1).toNat * 8)).block, (ad178.add ((x4_1).toNat * 8)).off + 6, none⟩ = some (.bool ((rd_T26 l0 x4_1).f6)) ∧ w'.cell? ⟨(ad178.add ((x4_1).toNat * 8)).block, (ad178.add ((x4_1).toNat * 8)).off + 7, none⟩ = some (.int .i64 ((rd_T26 l0 x4_1).f7)) ∧ w'.cell? (ad178.add ((x5_3).toNat * 8)) = some (.int .i64 ((rd_T26 l0 x5_3).f0)) ∧ w'.cell? ⟨(ad178.add ((x5_3).toNat * 8)).block, (ad178.add ((x5_3).toNat * 8)).off + 1, none⟩ = some (.string ((rd_T26 l0 x5_3).f1)) ∧ w'.cell? ⟨(ad178.add ((x5_3).toNat * 8)).block, (ad178.add ((x5_3).toNat * 8)).off + 2, none⟩ = some (.string ((rd_T26 l0 x5_3).f2)) ∧ w'.cell? ⟨(ad178.add ((x5_3).toNat * 8)).block, (ad178.add ((x5_3).toNat * 8)).off + 3, none⟩ = some (.string ((rd_T26 l0 x5_3).f3)) ∧ w'.cell? ⟨(ad178.add ((x5_3).toNat * 8)).block, (ad178.add ((x5_3).toNat * 8)).off + 4, none⟩ = some (.int .i64 ((rd_T26 l0 x5_3).f4)) ∧ w'.cell? ⟨(ad178.add ((x5_3).toNat * 8)).block, (ad178.add ((x5_3).toNat * 8)).off + 5, none⟩ = some (.string ((rd_T26 l0 x5_3).f5)) ∧ w'.cell? ⟨(ad178.add ((x5_3).toNat * 8)).block, (ad178.add ((x5_3).toNat * 8)).off + 6, none⟩ = some (.bool ((rd_T26 l0 x5_3).f6)) ∧ w'.cell? ⟨(ad178.add ((x5_3).toNat * 8)).block, (ad178.add ((x5_3).toNat * 8)).off + 7, none⟩ = some (.int .i64 ((rd_T26 l0 x5_3).f7)) ∧ w'.cell? (ad178.add ((x4_1).toNat * 8)) = some (.int .i64 ((rd_T26 l0 x4_1).f0)) ∧ w'.cell? ⟨(ad178.add ((x4_1).toNat * 8)).block, (ad178.add ((x4_1).toNat * 8)).off + 1, none⟩ = some (.string ((rd_T26 l0 x4_1).f1)) ∧ w'.cell? ⟨(ad178.add ((x4_1).toNat * 8)).block, (ad178.add ((x4_1).toNat * 8)).off + 2, none⟩ = some (.string ((rd_T26 l0 x4_1).f2)) ∧ w'.cell? ⟨(ad178.add ((x4_1).toNat * 8)).block, (ad178.add ((x4_1).toNat * 8)).off + 3, none⟩ = some (.string ((rd_T26 l0 x4_1).f3)) ∧ w'.cell? ⟨(ad178.add ((x4_1).toNat * 8)).block, (ad178.add ((x4_1).toNat * 8)).off + 4, none⟩ = some (.int .i64 ((rd_T26 l0 x4_1).f4)) ∧ w'.cell? ⟨(ad178.add ((x4_1).toNat * 8)).block, (ad178.add ((x4_1).toNat * 8)).off + 5, none⟩ = some (.string ((rd_T26 l0 x4_1).f5)) ∧ w'.cell? ⟨(ad178.add ((x4_1).toNat * 8)).block, (ad178.add ((x4_1).toNat * 8)).off + 6, none⟩ = some (.bool ((rd_T26 l0 x4_1).f6)) ∧ w'.cell? ⟨(ad178.add ((x4_1).toNat * 8)).block, (ad178.add ((x4_1).toNat * 8)).off + 7, none⟩ = some (.int .i64 ((rd_T26 l0 x4_1).f7))) (ds := []) #[false, false, false, false, false, false, false, false, false, false, false, false, false, false, false, false, false, false, false, false, false, false, false, false] kr_ rfl rfl ⟨((HB.out.cell (World.block_lt_of_cell? w _ hw181_0)).trans hw181_0), ((HB.out.cell (World.block_lt_of_cell? w _ hw181_1)).trans hw181_1), ((HB.out.cell (World.block_lt_of_cell? w _ hw181_2)).trans hw181_2), ((HB.out.cell (World.block_lt_of_cell? w _ hw181_3)).trans hw181_3), ((HB.out.cell (World.block_lt_of_cell? w _ hw181_4)).trans hw181_4), ((HB.out.cell (World.block_lt_of_cell? w _ hw181_5)).trans hw181_5), ((HB.out.cell (World.block_lt_of_cell? w _ hw181_6)).trans hw181_6), ((HB.out.cell (World.block_lt_of_cell? w _ hw181_7)).trans hw181_7), ((HB.out.cell (World.block_lt_of_cell? w _ hw182_0)).trans hw182_0), ((HB.out.cell (World.block_lt_of_cell? w _ hw182_1)).trans hw182_1), ((HB.out.cell (World.block_lt_of_cell? w _ hw182_2)).trans hw182_2), ((HB.out.cell (World.block_lt_of_cell? w _ hw182_3)).trans hw182_3), ((HB.out.cell (World.block_lt_of_cell? w _ hw182_4)).trans hw182_4), ((HB.out.cell (World.block_lt_of_cell? w _ hw182_5)).trans hw182_5), ((HB.out.cell (World.block_lt_of_cell? w _ hw182_6)).trans hw182_6), ((HB.out.cell (World.block_lt_of_cell? w _ hw182_7)).trans hw182_7), ((HB.out.cell (World.block_lt_of_cell? w _ hw183_0)).trans hw183_0), ((HB.out.cell (World.block_lt_of_cell? w _ hw183_1)).trans hw183_1), ((HB.out.cell (World.block_lt_of_cell? w _ hw183_2)).trans hw183_2), ((HB.out.cell (World.block_lt_of_cell? w _ hw183_3)).trans hw183_3), ((HB.out.cell (World.block_lt_of_cell? w _ hw183_4)).trans hw183_4), ((HB.out.cell (World.block_lt_of_cell? w _ hw183_5)).trans hw183_5), ((HB.out.cell (World.block_lt_of_cell? w _ hw183_6)).trans hw183_6), ((HB.out.cell (World.block_lt_of_cell? w _ hw183_7)).trans hw183_7), ((HB.out.cell (World.block_lt_of_cell? w _ hw184_0)).trans hw184_0), ((HB.out.cell (World.block_lt_of_cell? w _ hw184_1)).trans hw184_1), ((HB.out.cell (World.block_lt_of_cell? w _ hw184_2)).trans hw184_2), ((HB.out.cell (World.block_lt_of_cell? w _ hw184_3)).trans hw184_3), ((HB.out.cell (World.block_lt_of_cell? w _ hw184_4)).trans hw184_4), ((HB.out.cell (World.block_lt_of_cell? w _ hw184_5)).trans hw184_5), ((HB.out.cell (World.block_lt_of_cell? w _ hw184_6)).trans hw184_6), ((HB.out.cell (World.block_lt_of_cell? w _ hw184_7)).trans hw184_7)⟩ (fun hHeld => ?_); refine with_tabW tollref07_All.tab12 tollref07_All.bits12 (fun HT_ HW_ => ?_)
                 generalize wr.drew = w19 at HB hx181_0 hx181_1 hx181_2 hx181_3 hx181_4 hx181_5 hx181_6 hx181_7 hx182_0 hx182_1 hx182_2 hx182_3 hx182_4 hx182_5 hx182_6 hx182_7 hx183_0 hx183_1 hx183_2 hx183_3 hx183_4 hx183_5 hx183_6 hx183_7 hx184_0 hx184_1 hx184_2 hx184_3 hx184_4 hx184_5 hx184_6 hx184_7 hHeld ⊢
                 refine pure_ (i := 0) (N := some 31) (v := ?_) (a' := ?_) #[true, false, false, false, false, false, false, false, false, false, false, false, false, false, false, false, false, false, false, false, false, false, false, false] rfl rfl (any_of HT_.out kr_) (fun _ _ _ h => h) (Or.inl ⟨by rfl, ?_⟩) ?_ ?_
                 rotate_left
                 ·intro w'
                  go_simp
                  with_reducible rfl
                 rotate_left
                 ·simp only [Act.put, sx_, s0_, s1_, i64_w, i32_w]
                  rfl
                 refine pure_ (i := 1) (N := some 32) (v := ?_) (a' := ?_) #[true, true, false, false, false, false, false, false, false, false, false, false, false, false, false, false, false, false, false, false, false, false, false, false] rfl rfl (any_of HT_.out kr_) (fun _ _ _ h => h) (Or.inl ⟨by rfl, ?_⟩) ?_ ?_
                 rotate_left
                 ·intro w'
                  go_simp
                  with_reducible rfl
                 rotate_left
                 ·simp only [Act.put, sx_, s0_, s1_, i64_w, i32_w]
                  rfl
                 refine pure_ (i := 2) (N := some 33) (v := ?_) (a' := ?_) #[true, true, true, false, false, false, false, false, false, false, false, false, false, false, false, false, false, false, false, false, false, false, false, false] rfl rfl (any_of HT_.out kr_) (fun _ _ _ h => h) (Or.inl ⟨by rfl, ?_⟩) ?_ ?_
                 rotate_left
                 ·intro w'
                  go_simp
                  with_reducible rfl
                 rotate_left
                 ·simp only [Act.put, sx_, s0_, s1_, i64_w, i32_w]
                  rfl
                 refine pure_ (i := 3) (N := some 34) (v := ?_) (a' := ?_) #[true, true, true, true, false, false, false, false, false, false, false, false, false, false, false, false, false, false, false, false, false, false, false, false] rfl rfl (any_of HT_.out kr_) (fun _ _ _ h => h) (Or.inl ⟨by rfl, ?_⟩) ?_ ?_
                 rotate_left
                 ·intro w'
                  go_simp
                  with_reducible rfl
                 rotate_left
                 ·simp only [Act.put, sx_, s0_, s1_, i64_w, i32_w]
                  rfl
                 refine pure_ (i := 5) (N := some 36) (v := ?_) (a' := ?_) #[true, true, true, true, false, true, false, false, false, false, false, false, false, false, false, false, false, false, false, false, false, false, false, false] rfl rfl (any_of HT_.out kr_) (fun _ _ _ h => h) (Or.inl ⟨by rfl, ?_⟩) ?_ ?_
                 rotate_left
                 ·intro w'
                  go_simp
                  with_reducible rfl
                 rotate_left
                 ·simp only [Act.put, sx_, s0_, s1_, i64_w, i32_w]
                  rfl
                 refine pure_ (i := 6) (N := some 37) (v := ?_) (a' := ?_) #[true, true, true, true, false, true, true, false, false, false, false, false, false, false, false, false, false, false, false, false, false, false, false, false] rfl rfl (any_of HT_.out kr_) (fun _ _ _ h => h) (Or.inl ⟨by rfl, ?_⟩) ?_ ?_
                 rotate_left
                 ·intro w'
                  go_simp
                  with_reducible rfl
                 rotate_left
                 ·simp only [Act.put, sx_, s0_, s1_, i64_w, i32_w]
                  rfl
                 refine pure_ (i := 7) (N := some 38) (v := ?_) (a' := ?_) #[true, true, true, true, false, true, true, true, false, false, false, false, false, false, false, false, false, false, false, false, false, false, false, false] rfl rfl (any_of HT_.out kr_) (fun _ _ _ h => h) (Or.inl ⟨by rfl, ?_⟩) ?_ ?_
                 rotate_left
                 ·intro w'
                  go_simp
                  with_reducible rfl
                 rotate_left
                 ·simp only [Act.put, sx_, s0_, s1_, i64_w, i32_w]
                  rfl
                 refine pure_ (i := 8) (N := some 39) (v := ?_) (a' := ?_) #[true, true, true, true, false, true, true, true, true, false, false, false, false, false, false, false, false, false, false, false, false, false, false, false] rfl rfl (any_of HT_.out kr_) (fun _ _ _ h => h) (Or.inl ⟨by rfl, ?_⟩) ?_ ?_
                 rotate_left
                 ·intro w'
                  go_simp
                  with_reducible rfl
                 rotate_left
                 ·simp only [Act.put, sx_, s0_, s1_, i64_w, i32_w]
                  rfl
                 refine take_ (i := 4) (N := some 35) (v := ?_) (a' := ?_) #[true, true, true, true, true, true, true, true, true, false, false, false, false, false, false, false, false, false, false, false, false, false, false, false] rfl rfl (take_ofW HT_.out HW_.out kr_) (fun _ _ _ h => h) (Or.inl ⟨by rfl, ?_⟩) hHeld ?_ ?_
                 rotate_left
                 ·rintro w' ⟨s0, s1, s2, s3, s4, s5, s6, s7, s8, s9, s10, s11, s12, s13, s14, s15, s16, s17, s18, s19, s20, s21, s22, s23, s24, s25, s26, s27, s28, s29, s30, s31⟩
                  go_simp
                  with_reducible rfl
                 rotate_left
                 ·simp only [Act.put, sx_, s0_, s1_, i64_w, i32_w]
                  rfl
                 refine take_ (i := 9) (N := some 40) (v := ?_) (a' := ?_) #[true, true, true, true, true, true, true, true, true, true, false, false, false, false, false, false, false, false, false, false, false, false, false, false] rfl rfl (take_ofW HT_.out HW_.out kr_) (fun _ _ _ h => h) (Or.inl ⟨by rfl, ?_⟩) hHeld ?_ ?_
                 rotate_left
                 ·rintro w' ⟨s0, s1, s2, s3, s4, s5, s6, s7, s8, s9, s10, s11, s12, s13, s14, s15, s16, s17, s18, s19, s20, s21, s22, s23, s24, s25, s26, s27, s28, s29, s30, s31⟩
                  go_simp
                  with_reducible rfl
                 rotate_left
                 ·simp only [Act.put, sx_, s0_, s1_, i64_w, i32_w]
                  rfl
                 refine pure_ (i := 10) (N := some 41) (v := ?_) (a' := ?_) #[true, true, true, true, true, true, true, true, true, true, true, false, false, false, false, false, false, false, false, false, false, false, false, false] rfl rfl (any_of HT_.out kr_) (fun _ _ _ h => h) (Or.inl ⟨by rfl, ?_⟩) ?_ ?_
                 rotate_left
                 ·intro w'
                  go_simp
                  with_reducible rfl
                 rotate_left
                 ·simp only [Act.put, sx_, s0_, s1_, i64_w, i32_w]
                  rfl
                 refine pure_ (i := 11) (N := some 42) (v := ?_) (a' := ?_) #[true, true, true, true, true, true, true, true, true, true, true, true, false, false, false, false, false, false, false, false, false, false, false, false] rfl rfl (any_of HT_.out kr_) (fun _ _ _ h => h) (Or.inl ⟨by rfl, ?_⟩) ?_ ?_
                 rotate_left
                 ·intro w'
                  go_simp
                  with_reducible rfl
                 rotate_left
                 ·simp only [Act.put, sx_, s0_, s1_, i64_w, i32_w]
                  rfl
                 refine pure_ (i := 12) (N := some 43) (v := ?_) (a' := ?_) #[true, true, true, true, true, true, true, true, true, true, true, true, true, false, false, false, false, false, false, false, false, false, false, false] rfl rfl (any_of HT_.out kr_) (fun _ _ _ h => h) (Or.inl ⟨by rfl, ?_⟩) ?_ ?_
                 rotate_left
                 ·intro w'
                  go_simp
                  with_reducible rfl
                 rotate_left
                 ·simp only [Act.put, sx_, s0_, s1_, i64_w, i32_w]
                  rfl
                 refine pure_ (i := 13) (N := some 44) (v := ?_) (a' := ?_) #[true, true, true, true, true, true, true, true, true, true, true, true, true, true, false, false, false, false, false, false, false, false, false, false] rfl rfl (any_of HT_.out kr_) (fun _ _ _ h => h) (Or.inl ⟨by rfl, ?_⟩) ?_ ?_
                 rotate_left
                 ·intro w'
                  go_simp
                  with_reducible rfl
                 rotate_left
                 ·simp only [Act.put, sx_, s0_, s1_, i64_w, i32_w]
                  rfl
                 refine pure_ (i := 14) (N := some 45) (v := ?_) (a' := ?_) #[true, true, true, true, true, true, true, true, true, true, true, true, true, true, true, false, false, false, false, false, false, false, false, false] rfl rfl (any_of HT_.out kr_) (fun _ _ _ h => h) (Or.inl ⟨by rfl, ?_⟩) ?_ ?_
                 rotate_left
                 ·intro w'
                  go_simp
                  with_reducible rfl
                 rotate_left
                 ·simp only [Act.put, sx_, s0_, s1_, i64_w, i32_w]
                  rfl
                 refine pure_ (i := 15) (N := some 46) (v := ?_) (a' := ?_) #[true, true, true, true, true, true, true, true, true, true, true, true, true, true, true, true, false, false, false, false, false, false, false, false] rfl rfl (any_of HT_.out kr_) (fun _ _ _ h => h) (Or.inl ⟨by rfl, ?_⟩) ?_ ?_
                 rotate_left
                 ·intro w'
                  go_simp
                  with_reducible rfl
                 rotate_left
                 ·simp only [Act.put, sx_, s0_, s1_, i64_w, i32_w]
                  rfl
                 refine pure_ (i := 17) (N := some 48) (v := ?_) (a' := ?_) #[true, true, true, true, true, true, true, true, true, true, true, true, true, true, true, true, false, true, false, false, false, false, false, false] rfl rfl (any_of HT_.out kr_) (fun _ _ _ h => h) (Or.inl ⟨by rfl, ?_⟩) ?_ ?_
                 rotate_left
                 ·intro w'
                  go_simp
                  with_reducible rfl
                 rotate_left
                 ·simp only [Act.put, sx_, s0_, s1_, i64_w, i32_w]
                  rfl
                 refine pure_ (i := 18) (N := some 49) (v := ?_) (a' := ?_) #[true, true, true, true, true, true, true, true, true, true, true, true, true, true, true, true, false, true, true, false, false, false, false, false] rfl rfl (any_of HT_.out kr_) (fun _ _ _ h => h) (Or.inl ⟨by rfl, ?_⟩) ?_ ?_
                 rotate_left
                 ·intro w'
                  go_simp
                  with_reducible rfl
                 rotate_left
                 ·simp only [Act.put, sx_, s0_, s1_, i64_w, i32_w]
                  rfl
                 refine pure_ (i := 19) (N := some 50) (v := ?_) (a' := ?_) #[true, true, true, true, true, true, true, true, true, true, true, true, true, true, true, true, false, true, true, true, false, false, false, false] rfl rfl (any_of HT_.out kr_) (fun _ _ _ h => h) (Or.inl ⟨by rfl, ?_⟩) ?_ ?_
                 rotate_left
                 ·intro w'
                  go_simp
                  with_reducible rfl
                 rotate_left
                 ·simp only [Act.put, sx_, s0_, s1_, i64_w, i32_w]
                  rfl
                 refine pure_ (i := 20) (N := some 51) (v := ?_) (a' := ?_) #[true, true, true, true, true, true, true, true, true, true, true, true, true, true, true, true, false, true, true, true, true, false, false, false] rfl rfl (any_of HT_.out kr_) (fun _ _ _ h => h) (Or.inl ⟨by rfl, ?_⟩) ?_ ?_
                 rotate_left
                 ·intro w'
                  go_simp
                  with_reducible rfl
                 rotate_left
                 ·simp only [Act.put, sx_, s0_, s1_, i64_w, i32_w]
                  rfl
                 refine take_ (i := 16) (N := some 47) (v := ?_) (a' := ?_) #[true, true, true, true, true, true, true, true, true, true, true, true, true, true, true, true, true, true, true, true, true, false, false, false] rfl rfl (take_ofW HT_.out HW_.out kr_) (fun _ _ _ h => h) (Or.inl ⟨by rfl, ?_⟩) hHeld ?_ ?_
                 rotate_left
                 ·rintro w' ⟨s0, s1, s2, s3, s4, s5, s6, s7, s8, s9, s10, s11, s12, s13, s14, s15, s16, s17, s18, s19, s20, s21, s22, s23, s24, s25, s26, s27, s28, s29, s30, s31⟩
                  go_simp
                  with_reducible rfl
                 rotate_left
                 ·simp only [Act.put, sx_, s0_, s1_, i64_w, i32_w]
                  rfl
                 refine take_ (i := 21) (N := some 52) (v := ?_) (a' := ?_) #[true, true, true, true, true, true, true, true, true, true, true, true, true, true, true, true, true, true, true, true, true, true, false, false] rfl rfl (take_ofW HT_.out HW_.out kr_) (fun _ _ _ h => h) (Or.inl ⟨by rfl, ?_⟩) hHeld ?_ ?_
                 rotate_left
                 ·rintro w' ⟨s0, s1, s2, s3, s4, s5, s6, s7, s8, s9, s10, s11, s12, s13, s14, s15, s16, s17, s18, s19, s20, s21, s22, s23, s24, s25, s26, s27, s28, s29, s30, s31⟩
                  go_simp
                  with_reducible rfl
                 rotate_left
                 ·simp only [Act.put, sx_, s0_, s1_, i64_w, i32_w]
                  rfl
                 refine one_ (i := 22) (N := some 53) #[true, true, true, true, true, true, true, true, true, true, true, true, true, true, true, true, true, true, true, true, true, true, true, false] rfl rfl (one_of HT_.out kr_) (by decide) (fun K hK => ?_)
                 refine goes_ Tryz.func23 kr_ rfl #[.string ((rd_T26 l0 x5_3).f1), .string ((rd_T26 l0 x4_1).f1)] (by rfl) rfl rfl rl_ ?_
                 with_reducible refine (tollref05_Same.calls k3 ((rd_T26 l0 x5_3).f1) ((rd_T26 l0 x4_1).f1) false _ A15.out).mono ?_
                 rintro e w20 ⟨rfl, hb⟩
                 refine ⟨_, rfl, ?_⟩
                 have n0_ := am_ (below_step (bel_ HB.out) hb)
                 clear HB
                 have HB := n0_
                 clear n0_
                 (try clear hb)
                 (try clear hb2)
                 (try clear hk)
                 (try clear hi)
                 refine hK.out _ _ ⟨((HB.out.cell (World.block_lt_of_cell? w _ hw181_0)).trans hw181_0), ((HB.out.cell (World.block_lt_of_cell? w _ hw181_1)).trans hw181_1), ((HB.out.cell (World.block_lt_of_cell? w _ hw181_2)).trans hw181_2), ((HB.out.cell (World.block_lt_of_cell? w _ hw181_3)).trans hw181_3), ((HB.out.cell (World.block_lt_of_cell? w _ hw181_4)).trans hw181_4), ((HB.out.cell (World.block_lt_of_cell? w _ hw181_5)).trans hw181_5), ((HB.out.cell (World.block_lt_of_cell? w _ hw181_6)).trans hw181_6), ((HB.out.cell (World.block_lt_of_cell? w _ hw181_7)).trans hw181_7), ((HB.out.cell (World.block_lt_of_cell? w _ hw182_0)).trans hw182_0), ((HB.out.cell (World.block_lt_of_cell? w _ hw182_1)).trans hw182_1), ((HB.out.cell (World.block_lt_of_cell? w _ hw182_2)).trans hw182_2), ((HB.out.cell (World.block_lt_of_cell? w _ hw182_3)).trans hw182_3), ((HB.out.cell (World.block_lt_of_cell? w _ hw182_4)).trans hw182_4), ((HB.out.cell (World.block_lt_of_cell? w _ hw182_5)).trans hw182_5), ((HB.out.cell (World.block_lt_of_cell? w _ hw182_6)).trans hw182_6), ((HB.out.cell (World.block_lt_of_cell? w _ hw182_7)).trans hw182_7), ((HB.out.cell (World.block_lt_of_cell? w _ hw183_0)).trans hw183_0), ((HB.out.cell (World.block_lt_of_cell? w _ hw183_1)).trans hw183_1), ((HB.out.cell (World.block_lt_of_cell? w _ hw183_2)).trans hw183_2), ((HB.out.cell (World.block_lt_of_cell? w _ hw183_3)).trans hw183_3), ((HB.out.cell (World.block_lt_of_cell? w _ hw183_4)).trans hw183_4), ((HB.out.cell (World.block_lt_of_cell? w _ hw183_5)).trans hw183_5), ((HB.out.cell (World.block_lt_of_cell? w _ hw183_6)).trans hw183_6), ((HB.out.cell (World.block_lt_of_cell? w _ hw183_7)).trans hw183_7), ((HB.out.cell (World.block_lt_of_cell? w _ hw184_0)).trans hw184_0), ((HB.out.cell (World.block_lt_of_cell? w _ hw184_1)).trans hw184_1), ((HB.out.cell (World.block_lt_of_cell? w _ hw184_2)).trans hw184_2), ((HB.out.cell (World.block_lt_of_cell? w _ hw184_3)).trans hw184_3), ((HB.out.cell (World.block_lt_of_cell? w _ hw184_4)).trans hw184_4), ((HB.out.cell (World.block_lt_of_cell? w _ hw184_5)).trans hw184_5), ((HB.out.cell (World.block_lt_of_cell? w _ hw184_6)).trans hw184_6), ((HB.out.cell (World.block_lt_of_cell? w _ hw184_7)).trans hw184_7)⟩ (fun hHeld => ?_)
                 clear hK K
                 refine norm_ (a' := ?_) ?_ ?_
                 rotate_left
                 ·show Act.put _ (some 53) _ = _
                  simp only [Act.put, sx_, s0_, s1_, i64_w, i32_w]
                  rfl
                 refine pure_ (i := 23) (N := some 54) (v := ?_) (a' := ?_) #[true, true, true, true, true, true, true, true, true, true, true, true, true, true, true, true, true, true, true, true, true, true, true, true] rfl rfl (any_of HT_.out kr_) (fun _ _ _ h => h) (Or.inl ⟨by rfl, ?_⟩) ?_ ?_
                 rotate_left
                 ·intro w'
                  go_simp
                  with_reducible rfl
                 rotate_left
                 ·simp only [Act.put, sx_, s0_, s1_, i64_w, i32_w]
                  rfl
                 refine done_ (done_of HT_.out kr_) ?_
                 try go_wp2
                 go_roundg k3
                 case measure => have := HK1.out; have := HJ5.out; have := HK3.out; omega
                 case rel => exact ⟨(wrap64 (x5_3 + 1)), sd_, H', ⟨by have := HK1.out; have := HJ5.out; have := HK3.out; omega⟩, ⟨bel_ HB.out⟩⟩
               ·rw [if_neg c14] at H
                have c14b0 : (((rd_T26 l0 x5_3).f0) == ((rd_T26 l0 x4_1).f0)) = false := beq_eq_false_iff_ne.mpr c14
                have c14b1 : (((rd_T26 l0 x5_3).f0) != ((rd_T26 l0 x4_1).f0)) = true := bne_iff_ne.mpr c14
                have H' := Aside0.mk H
                clear H
                try go_wp2
                have n0_ := am_ (below_drew1 HB.out)
                clear HB
                have HB := n0_
                clear n0_
                have p181 : 0 ≤ (x5_3 : Int) := of_decide_eq_true as_
                have q181 : x5_3 < (l0.length : Int) := of_decide_eq_true as_
                obtain ⟨ad181, e181, hx181_0, hx181_1, hx181_2, hx181_3, hx181_4, hx181_5, hx181_6, hx181_7⟩ := at_T26 HR0.out x5_3 p181 q181
                have hw181_7 := hx181_7
                have hw181_6 := hx181_6
                have hw181_5 := hx181_5
                have hw181_4 := hx181_4
                have hw181_3 := hx181_3
                have hw181_2 := hx181_2
                have hw181_1 := hx181_1
                have hw181_0 := hx181_0
                obtain rfl : ad178 = ad181 := (by injection e181)
                replace hx181_0 := (HB.out.cell (World.block_lt_of_cell? w _ hx181_0)).trans hx181_0
                replace hx181_1 := (HB.out.cell (World.block_lt_of_cell? w _ hx181_1)).trans hx181_1
                replace hx181_2 := (HB.out.cell (World.block_lt_of_cell? w _ hx181_2)).trans hx181_2
                replace hx181_3 := (HB.out.cell (World.block_lt_of_cell? w _ hx181_3)).trans hx181_3
                replace hx181_4 := (HB.out.cell (World.block_lt_of_cell? w _ hx181_4)).trans hx181_4
                replace hx181_5 := (HB.out.cell (World.block_lt_of_cell? w _ hx181_5)).trans hx181_5
                replace hx181_6 := (HB.out.cell (World.block_lt_of_cell? w _ hx181_6)).trans hx181_6
                replace hx181_7 := (HB.out.cell (World.block_lt_of_cell? w _ hx181_7)).trans hx181_7
                replace p181 := eq_true p181
                replace q181 := eq_true q181
                have p182 : 0 ≤ (x4_1 : Int) := of_decide_eq_true as_
                have q182 : x4_1 < (l0.length : Int) := of_decide_eq_true as_
                obtain ⟨ad182, e182, hx182_0, hx182_1, hx182_2, hx182_3, hx182_4, hx182_5, hx182_6, hx182_7⟩ := at_T26 HR0.out x4_1 p182 q182
                have hw182_7 := hx182_7
                have hw182_6 := hx182_6
                have hw182_5 := hx182_5
                have hw182_4 := hx182_4
                have hw182_3 := hx182_3
                have hw182_2 := hx182_2
                have hw182_1 := hx182_1
                have hw182_0 := hx182_0
                obtain rfl : ad178 = ad182 := (by injection e182)
                replace hx182_0 := (HB.out.cell (World.block_lt_of_cell? w _ hx182_0)).trans hx182_0
                replace hx182_1 := (HB.out.cell (World.block_lt_of_cell? w _ hx182_1)).trans hx182_1
                replace hx182_2 := (HB.out.cell (World.block_lt_of_cell? w _ hx182_2)).trans hx182_2
                replace hx182_3 := (HB.out.cell (World.block_lt_of_cell? w _ hx182_3)).trans hx182_3
                replace hx182_4 := (HB.out.cell (World.block_lt_of_cell? w _ hx182_4)).trans hx182_4
                replace hx182_5 := (HB.out.cell (World.block_lt_of_cell? w _ hx182_5)).trans hx182_5
                replace hx182_6 := (HB.out.cell (World.block_lt_of_cell? w _ hx182_6)).trans hx182_6
                replace hx182_7 := (HB.out.cell (World.block_lt_of_cell? w _ hx182_7)).trans hx182_7
                replace p182 := eq_true p182
                replace q182 := eq_true q182
                refine start_ (n := 24) (S := fun w' => w'.cell? (ad178.add ((x5_3).toNat * 8)) = some (.int .i64 ((rd_T26 l0 x5_3).f0)) ∧ w'.cell? ⟨(ad178.add ((x5_3).toNat * 8)).block, (ad178.add ((x5_3).toNat * 8)).off + 1, none⟩ = some (.string ((rd_T26 l0 x5_3).f1)) ∧ w'.cell? ⟨(ad178.add ((x5_3).toNat * 8)).block, (ad178.add ((x5_3).toNat * 8)).off + 2, none⟩ = some (.string ((rd_T26 l0 x5_3).f2)) ∧ w'.cell? ⟨(ad178.add ((x5_3).toNat * 8)).block, (ad178.add ((x5_3).toNat * 8)).off + 3, none⟩ = some (.string ((rd_T26 l0 x5_3).f3)) ∧ w'.cell? ⟨(ad178.add ((x5_3).toNat * 8)).block, (ad178.add ((x5_3).toNat * 8)).off + 4, none⟩ = some (.int .i64 ((rd_T26 l0 x5_3).f4)) ∧ w'.cell? ⟨(ad178.add ((x5_3).toNat * 8)).block, (ad178.add ((x5_3).toNat * 8)).off + 5, none⟩ = some (.string ((rd_T26 l0 x5_3).f5)) ∧ w'.cell? ⟨(ad178.add ((x5_3).toNat * 8)).block, (ad178.add ((x5_3).toNat * 8)).off + 6, none⟩ = some (.bool ((rd_T26 l0 x5_3).f6)) ∧ w'.cell? ⟨(ad178.add ((x5_3).toNat * 8)).block, (ad178.add ((x5_3).toNat * 8)).off + 7, none⟩ = some (.int .i64 ((rd_T26 l0 x5_3).f7)) ∧ w'.cell? (ad178.add ((x4_1).toNat * 8)) = some (.int .i64 ((rd_T26 l0 x4_1).f0)) ∧ w'.cell? ⟨(ad178.add ((x4_1).toNat * 8)).block, (ad178.add ((x4_1).toNat * 8)).off + 1, none⟩ = some (.string ((rd_T26 l0 x4_1).f1)) ∧ w'.cell? ⟨(ad178.add ((x4_1).toNat * 8)).block, (ad178.add ((x4_1).toNat * 8)).off + 2, none⟩ = some (.string ((rd_T26 l0 x4_1).f2)) ∧ w'.cell? ⟨(ad178.add ((x4_1).toNat * 8)).block, (ad178.add ((x4_1).toNat * 8)).off + 3, none⟩ = some (.string ((rd_T26 l0 x4_1).f3)) ∧ w'.cell? ⟨(ad178.add ((x4_1).toNat * 8)).block, (ad178.add ((x4_1).toNat * 8)).off + 4, none⟩ = some (.int .i64 ((rd_T26 l0 x4_1).f4)) ∧ w'.cell? ⟨(ad178.add ((x4_1).toNat * 8)).block, (ad178.add ((x4_1).toNat * 8)).off + 5, none⟩ = some (.string ((rd_T26 l0 x4_1).f5)) ∧ w'.cell? ⟨(ad178.add ((x4_1).toNat * 8)).block, (ad178.add ((x4_1).toNat * 8)).off + 6, none⟩ = some (.bool ((rd_T26 l0 x4_1).f6)) ∧ w'.cell? ⟨(ad178.add ((x4_1).toNat * 8)).block, (ad178.add ((x4_1).toNat * 8)).off + 7, none⟩ = some (.int .i64 ((rd_T26 l0 x4_1).f7))) (ds := []) #[false, false, false, false, false, false, false, false, false, false, false, false, false, false, false, false, false, false, false, false, false, false, false, false] kr_ rfl rfl ⟨((HB.out.cell (World.block_lt_of_cell? w _ hw181_0)).trans hw181_0), ((HB.out.cell (World.block_lt_of_cell? w _ hw181_1)).trans hw181_1), ((HB.out.cell (World.block_lt_of_cell? w _ hw181_2)).trans hw181_2), ((HB.out.cell (World.block_lt_of_cell? w _ hw181_3)).trans hw181_3), ((HB.out.cell (World.block_lt_of_cell? w _ hw181_4)).trans hw181_4), ((HB.out.cell (World.block_lt_of_cell? w _ hw181_5)).trans hw181_5), ((HB.out.cell (World.block_lt_of_cell? w _ hw181_6)).trans hw181_6), ((HB.out.cell (World.block_lt_of_cell? w _ hw181_7)).trans hw181_7), ((HB.out.cell (World.block_lt_of_cell? w _ hw182_0)).trans hw182_0), ((HB.out.cell (World.block_lt_of_cell? w _ hw182_1)).trans hw182_1), ((HB.out.cell (World.block_lt_of_cell? w _ hw182_2)).trans hw182_2), ((HB.out.cell (World.block_lt_of_cell? w _ hw182_3)).trans hw182_3), ((HB.out.cell (World.block_lt_of_cell? w _ hw182_4)).trans hw182_4), ((HB.out.cell (World.block_lt_of_cell? w _ hw182_5)).trans hw182_5), ((HB.out.cell (World.block_lt_of_cell? w _ hw182_6)).trans hw182_6), ((HB.out.cell (World.block_lt_of_cell? w _ hw182_7)).trans hw182_7)⟩ (fun hHeld => ?_); refine with_tabW tollref07_All.tab12 tollref07_All.bits12 (fun HT_ HW_ => ?_)
                generalize wr.drew = w21 at HB hx181_0 hx181_1 hx181_2 hx181_3 hx181_4 hx181_5 hx181_6 hx181_7 hx182_0 hx182_1 hx182_2 hx182_3 hx182_4 hx182_5 hx182_6 hx182_7 hHeld ⊢
                refine pure_ (i := 0) (N := some 31) (v := ?_) (a' := ?_) #[true, false, false, false, false, false, false, false, false, false, false, false, false, false, false, false, false, false, false, false, false, false, false, false] rfl rfl (any_of HT_.out kr_) (fun _ _ _ h => h) (Or.inl ⟨by rfl, ?_⟩) ?_ ?_
                rotate_left
                ·intro w'
                 go_simp
                 with_reducible rfl
                rotate_left
                ·simp only [Act.put, sx_, s0_, s1_, i64_w, i32_w]
                 rfl
                refine pure_ (i := 1) (N := some 32) (v := ?_) (a' := ?_) #[true, true, false, false, false, false, false, false, false, false, false, false, false, false, false, false, false, false, false, false, false, false, false, false] rfl rfl (any_of HT_.out kr_) (fun _ _ _ h => h) (Or.inl ⟨by rfl, ?_⟩) ?_ ?_
                rotate_left
                ·intro w'
                 go_simp
                 with_reducible rfl
                rotate_left
                ·simp only [Act.put, sx_, s0_, s1_, i64_w, i32_w]
                 rfl
                refine pure_ (i := 2) (N := some 33) (v := ?_) (a' := ?_) #[true, true, true, false, false, false, false, false, false, false, false, false, false, false, false, false, false, false, false, false, false, false, false, false] rfl rfl (any_of HT_.out kr_) (fun _ _ _ h => h) (Or.inl ⟨by rfl, ?_⟩) ?_ ?_
                rotate_left
                ·intro w'
                 go_simp
                 with_reducible rfl
                rotate_left
                ·simp only [Act.put, sx_, s0_, s1_, i64_w, i32_w]
                 rfl
                refine pure_ (i := 3) (N := some 34) (v := ?_) (a' := ?_) #[true, true, true, true, false, false, false, false, false, false, false, false, false, false, false, false, false, false, false, false, false, false, false, false] rfl rfl (any_of HT_.out kr_) (fun _ _ _ h => h) (Or.inl ⟨by rfl, ?_⟩) ?_ ?_
                rotate_left
                ·intro w'
                 go_simp
                 with_reducible rfl
                rotate_left
                ·simp only [Act.put, sx_, s0_, s1_, i64_w, i32_w]
                 rfl
                refine pure_ (i := 5) (N := some 36) (v := ?_) (a' := ?_) #[true, true, true, true, false, true, false, false, false, false, false, false, false, false, false, false, false, false, false, false, false, false, false, false] rfl rfl (any_of HT_.out kr_) (fun _ _ _ h => h) (Or.inl ⟨by rfl, ?_⟩) ?_ ?_
                rotate_left
                ·intro w'
                 go_simp
                 with_reducible rfl
                rotate_left
                ·simp only [Act.put, sx_, s0_, s1_, i64_w, i32_w]
                 rfl
                refine pure_ (i := 6) (N := some 37) (v := ?_) (a' := ?_) #[true, true, true, true, false, true, true, false, false, false, false, false, false, false, false, false, false, false, false, false, false, false, false, false] rfl rfl (any_of HT_.out kr_) (fun _ _ _ h => h) (Or.inl ⟨by rfl, ?_⟩) ?_ ?_
                rotate_left
                ·intro w'
                 go_simp
                 with_reducible rfl
                rotate_left
                ·simp only [Act.put, sx_, s0_, s1_, i64_w, i32_w]
                 rfl
                refine pure_ (i := 7) (N := some 38) (v := ?_) (a' := ?_) #[true, true, true, true, false, true, true, true, false, false, false, false, false, false, false, false, false, false, false, false, false, false, false, false] rfl rfl (any_of HT_.out kr_) (fun _ _ _ h => h) (Or.inl ⟨by rfl, ?_⟩) ?_ ?_
                rotate_left
                ·intro w'
                 go_simp
                 with_reducible rfl
                rotate_left
                ·simp only [Act.put, sx_, s0_, s1_, i64_w, i32_w]
                 rfl
                refine pure_ (i := 8) (N := some 39) (v := ?_) (a' := ?_) #[true, true, true, true, false, true, true, true, true, false, false, false, false, false, false, false, false, false, false, false, false, false, false, false] rfl rfl (any_of HT_.out kr_) (fun _ _ _ h => h) (Or.inl ⟨by rfl, ?_⟩) ?_ ?_
                rotate_left
                ·intro w'
                 go_simp
                 with_reducible rfl
                rotate_left
                ·simp only [Act.put, sx_, s0_, s1_, i64_w, i32_w]
                 rfl
                refine take_ (i := 4) (N := some 35) (v := ?_) (a' := ?_) #[true, true, true, true, true, true, true, true, true, false, false, false, false, false, false, false, false, false, false, false, false, false, false, false] rfl rfl (take_ofW HT_.out HW_.out kr_) (fun _ _ _ h => h) (Or.inl ⟨by rfl, ?_⟩) hHeld ?_ ?_
                rotate_left
                ·rintro w' ⟨s0, s1, s2, s3, s4, s5, s6, s7, s8, s9, s10, s11, s12, s13, s14, s15⟩
                 go_simp
                 with_reducible rfl
                rotate_left
                ·simp only [Act.put, sx_, s0_, s1_, i64_w, i32_w]
                 rfl
                refine take_ (i := 9) (N := some 40) (v := ?_) (a' := ?_) #[true, true, true, true, true, true, true, true, true, true, false, false, false, false, false, false, false, false, false, false, false, false, false, false] rfl rfl (take_ofW HT_.out HW_.out kr_) (fun _ _ _ h => h) (Or.inl ⟨by rfl, ?_⟩) hHeld ?_ ?_
                rotate_left
                ·rintro w' ⟨s0, s1, s2, s3, s4, s5, s6, s7, s8, s9, s10, s11, s12, s13, s14, s15⟩
                 go_simp
                 with_reducible rfl
                rotate_left
                ·simp only [Act.put, sx_, s0_, s1_, i64_w, i32_w]
                 rfl
                refine pure_ (i := 10) (N := some 41) (v := ?_) (a' := ?_) #[true, true, true, true, true, true, true, true, true, true, true, false, false, false, false, false, false, false, false, false, false, false, false, false] rfl rfl (any_of HT_.out kr_) (fun _ _ _ h => h) (Or.inl ⟨by rfl, ?_⟩) ?_ ?_
                rotate_left
                ·intro w'
                 go_simp
                 with_reducible rfl
                rotate_left
                ·simp only [Act.put, sx_, s0_, s1_, i64_w, i32_w]
                 rfl
                refine pure_ (i := 11) (N := some 42) (v := ?_) (a' := ?_) #[true, true, true, true, true, true, true, true, true, true, true, true, false, false, false, false, false, false, false, false, false, false, false, false] rfl rfl (any_of HT_.out kr_) (fun _ _ _ h => h) (Or.inl ⟨by rfl, ?_⟩) ?_ ?_
                rotate_left
                ·intro w'
                 go_simp
                 with_reducible rfl
                rotate_left
                ·simp only [Act.put, sx_, s0_, s1_, i64_w, i32_w]
                 rfl
                refine pure_ (i := 12) (N := some 43) (v := undef) (a' := ?_) #[true, true, true, true, true, true, true, true, true, true, true, true, true, false, false, false, false, false, false, false, false, false, false, false] rfl rfl (any_of HT_.out kr_) (fun _ _ _ h => h) (Or.inr ⟨by rfl, rfl⟩) ?_ ?_
                rotate_left
                ·simp only [Act.put, sx_, s0_, s1_, i64_w, i32_w]
                 rfl
                refine pure_ (i := 13) (N := some 44) (v := undef) (a' := ?_) #[true, true, true, true, true, true, true, true, true, true, true, true, true, true, false, false, false, false, false, false, false, false, false, false] rfl rfl (any_of HT_.out kr_) (fun _ _ _ h => h) (Or.inr ⟨by rfl, rfl⟩) ?_ ?_
                rotate_left
                ·simp only [Act.put, sx_, s0_, s1_, i64_w, i32_w]
                 rfl
                refine pure_ (i := 14) (N := some 45) (v := undef) (a' := ?_) #[true, true, true, true, true, true, true, true, true, true, true, true, true, true, true, false, false, false, false, false, false, false, false, false] rfl rfl (any_of HT_.out kr_) (fun _ _ _ h => h) (Or.inr ⟨by rfl, rfl⟩) ?_ ?_
                rotate_left
                ·simp only [Act.put, sx_, s0_, s1_, i64_w, i32_w]
                 rfl
                refine pure_ (i := 15) (N := some 46) (v := undef) (a' := ?_) #[true, true, true, true, true, true, true, true, true, true, true, true, true, true, true, true, false, false, false, false, false, false, false, false] rfl rfl (any_of HT_.out kr_) (fun _ _ _ h => h) (Or.inr ⟨by rfl, rfl⟩) ?_ ?_
                rotate_left
                ·simp only [Act.put, sx_, s0_, s1_, i64_w, i32_w]
                 rfl
                refine pure_ (i := 16) (N := some 47) (v := undef) (a' := ?_) #[true, true, true, true, true, true, true, true, true, true, true, true, true, true, true, true, true, false, false, false, false, false, false, false] rfl rfl (any_of HT_.out kr_) (fun _ _ _ h => h) (Or.inr ⟨by rfl, rfl⟩) ?_ ?_
                rotate_left
                ·simp only [Act.put, sx_, s0_, s1_, i64_w, i32_w]
                 rfl
                refine pure_ (i := 17) (N := some 48) (v := undef) (a' := ?_) #[true, true, true, true, true, true, true, true, true, true, true, true, true, true, true, true, true, true, false, false, false, false, false, false] rfl rfl (any_of HT_.out kr_) (fun _ _ _ h => h) (Or.inr ⟨by rfl, rfl⟩) ?_ ?_
                rotate_left
                ·simp only [Act.put, sx_, s0_, s1_, i64_w, i32_w]
                 rfl
                refine pure_ (i := 18) (N := some 49) (v := undef) (a' := ?_) #[true, true, true, true, true, true, true, true, true, true, true, true, true, true, true, true, true, true, true, false, false, false, false, false] rfl rfl (any_of HT_.out kr_) (fun _ _ _ h => h) (Or.inr ⟨by rfl, rfl⟩) ?_ ?_
                rotate_left
                ·simp only [Act.put, sx_, s0_, s1_, i64_w, i32_w]
                 rfl
                refine pure_ (i := 19) (N := some 50) (v := undef) (a' := ?_) #[true, true, true, true, true, true, true, true, true, true, true, true, true, true, true, true, true, true, true, true, false, false, false, false] rfl rfl (any_of HT_.out kr_) (fun _ _ _ h => h) (Or.inr ⟨by rfl, rfl⟩) ?_ ?_
                rotate_left
                ·simp only [Act.put, sx_, s0_, s1_, i64_w, i32_w]
                 rfl
                refine pure_ (i := 20) (N := some 51) (v := undef) (a' := ?_) #[true, true, true, true, true, true, true, true, true, true, true, true, true, true, true, true, true, true, true, true, true, false, false, false] rfl rfl (any_of HT_.out kr_) (fun _ _ _ h => h) (Or.inr ⟨by rfl, rfl⟩) ?_ ?_
                rotate_left
                ·simp only [Act.put, sx_, s0_, s1_, i64_w, i32_w]
                 rfl
                refine pure_ (i := 21) (N := some 52) (v := undef) (a' := ?_) #[true, true, true, true, true, true, true, true, true, true, true, true, true, true, true, true, true, true, true, true, true, true, false, false] rfl rfl (any_of HT_.out kr_) (fun _ _ _ h => h) (Or.inr ⟨by rfl, rfl⟩) ?_ ?_
                rotate_left
                ·simp only [Act.put, sx_, s0_, s1_, i64_w, i32_w]
                 rfl
                refine pure_ (i := 22) (N := some 53) (v := undef) (a' := ?_) #[true, true, true, true, true, true, true, true, true, true, true, true, true, true, true, true, true, true, true, true, true, true, true, false] rfl rfl (any_of HT_.out kr_) (fun _ _ _ h => h) (Or.inr ⟨by rfl, rfl⟩) ?_ ?_
                rotate_left
                ·simp only [Act.put, sx_, s0_, s1_, i64_w, i32_w]
                 rfl
                refine pure_ (i := 23) (N := some 54) (v := ?_) (a' := ?_) #[true, true, true, true, true, true, true, true, true, true, true, true, true, true, true, true, true, true, true, true, true, true, true, true] rfl rfl (any_of HT_.out kr_) (fun _ _ _ h => h) (Or.inl ⟨by rfl, ?_⟩) ?_ ?_
                rotate_left
                ·intro w'
                 go_simp
                 with_reducible rfl
                rotate_left
                ·simp only [Act.put, sx_, s0_, s1_, i64_w, i32_w]
                 rfl
                refine done_ (done_of HT_.out kr_) ?_
                try go_wp2
                go_roundg k3
                case measure => have := HK1.out; have := HJ5.out; have := HK3.out; omega
                case rel => exact ⟨(wrap64 (x5_3 + 1)), sd_, H', ⟨by have := HK1.out; have := HJ5.out; have := HK3.out; omega⟩, ⟨bel_ HB.out⟩⟩
              ·rw [if_neg c13] at H
               exact absurd H (by simp)
             ·rw [if_neg c12] at H
              exact absurd H (by simp)
            ·rw [if_neg c11] at H
             exact absurd H (by simp)
           ·rw [if_neg c10] at H
            exact absurd H (by simp)
          ·rw [if_neg c9] at H
           have c9b0 : decide (x5_3 < x4_1) = false := decide_eq_false c9
           clear c9
           have H' := Aside0.mk H
           clear H
           go_wp2
           go_roundg k3
           case measure => have := HK1.out; have := HJ5.out; have := HK3.out; omega
           case rel => exact ⟨(x3_5), (wrap64 (x4_1 + 1)), sd_, sd_, H', ⟨by have := HK1.out; have := HJ5.out; have := HK3.out; omega⟩, ⟨bel_ HB.out⟩⟩
     ·replace c5 := Bool.eq_false_iff.mpr c5
      subst c5
      have H1 : (some false) = some r := by rw [if_neg (show ¬ (false = true) by decide)] at H; exact H
      clear H
      have H := H1
      clear H1
      obtain rfl := Option.some.inj H
      have p178 : 0 ≤ (x4_1 : Int) := of_decide_eq_true as_
      have q178 : x4_1 < (l0.length : Int) := of_decide_eq_true as_
      obtain ⟨ad178, e178, hx178_0, hx178_1, hx178_2, hx178_3, hx178_4, hx178_5, hx178_6, hx178_7⟩ := at_T26 HR0.out x4_1 p178 q178
      cases e178
      replace hx178_0 := (HB.out.cell (World.block_lt_of_cell? w _ hx178_0)).trans hx178_0
      replace hx178_1 := (HB.out.cell (World.block_lt_of_cell? w _ hx178_1)).trans hx178_1
      replace hx178_2 := (HB.out.cell (World.block_lt_of_cell? w _ hx178_2)).trans hx178_2
      replace hx178_3 := (HB.out.cell (World.block_lt_of_cell? w _ hx178_3)).trans hx178_3
      replace hx178_4 := (HB.out.cell (World.block_lt_of_cell? w _ hx178_4)).trans hx178_4
      replace hx178_5 := (HB.out.cell (World.block_lt_of_cell? w _ hx178_5)).trans hx178_5
      replace hx178_6 := (HB.out.cell (World.block_lt_of_cell? w _ hx178_6)).trans hx178_6
      replace hx178_7 := (HB.out.cell (World.block_lt_of_cell? w _ hx178_7)).trans hx178_7
      replace p178 := eq_true p178
      replace q178 := eq_true q178
      go_wp2_with (first | ((with_reducible refine gate_callee (f := 11) rfl ?_); refine goesL_ (some 16) rfl rfl Tryz.func11 kr_ rfl #[.agg #[.int .i64 ((rd_T26 l0 x4_1).f0), .string ((rd_T26 l0 x4_1).f1), .string ((rd_T26 l0 x4_1).f2), .string ((rd_T26 l0 x4_1).f3), .int .i64 ((rd_T26 l0 x4_1).f4), .string ((rd_T26 l0 x4_1).f5), .bool ((rd_T26 l0 x4_1).f6), .int .i64 ((rd_T26 l0 x4_1).f7)]] rfl rl_ ?_; (with_reducible refine (tollref07_May.calls k1 ((rd_T26 l0 x4_1).f0) ((rd_T26 l0 x4_1).f1) ((rd_T26 l0 x4_1).f2) ((rd_T26 l0 x4_1).f3) ((rd_T26 l0 x4_1).f4) ((rd_T26 l0 x4_1).f5) ((rd_T26 l0 x4_1).f6) ((rd_T26 l0 x4_1).f7) false _ A4.out).mono ?_); rintro e w22 ⟨rfl, hb⟩; refine ⟨_, rfl, ?_⟩; have n0_ := am_ (below_step (bel_ HB.out) hb); clear HB; have HB := n0_; clear n0_; (try clear hb); (try clear hb2); (try clear hk); (try clear hi)))
      go_ret
      exact ⟨fi_, bel_ HB.out⟩
    ·rw [if_neg c3] at H
     exact absurd H (by simp)
   ·rw [if_neg c2] at H
    have c2b0 : decide (x4_1 < (l0.length : Int)) = false := decide_eq_false c2
    clear c2
    by_cases c23 : x3_1 ≤ 1
    ·rw [if_pos c23] at H
     have c23b0 : decide (x3_1 ≤ 1) = true := decide_eq_true c23
     clear c23
     obtain rfl := Option.some.inj H
     go_wp2
     go_ret
     exact ⟨fi_, bel_ HB.out⟩
    ·rw [if_neg c23] at H
     have c23b0 : decide (x3_1 ≤ 1) = false := decide_eq_false c23
     clear c23
     obtain rfl := Option.some.inj H
     go_wp2
     go_ret
     exact ⟨fi_, bel_ HB.out⟩

end Go.Proofs.YtfdopmjgiakcdaaGreatDoor.P
