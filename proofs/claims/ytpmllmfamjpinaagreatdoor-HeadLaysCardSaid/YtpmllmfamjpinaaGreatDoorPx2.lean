-- written by wip/tool/hprint.py of this repo: the kit's print, with contracts by hand joined; Lean checks it.
import Derived.Test.YtpmllmfamjpinaaGreatDoorPx0
namespace Go.Proofs.YtpmllmfamjpinaaGreatDoor.P
open Go.RowKit Go.Proofs.YtpmllmfamjpinaaGreatDoorW.PrintWords Go.Proofs.YtpmllmfamjpinaaGreatDoorW.PrintLast Go.Proofs.YtpmllmfamjpinaaGreatDoorW.PrintMore
attribute [local go_sem] max2_int min2_int max_two min_two max_three min_three max_four min_four   -- for this text's walks alone
set_option linter.unusedVariables false
set_option linter.unusedSimpArgs false

/-! ### tolllaw01_Few: function 11 -/
def tolllaw01_Few.f (a0 : ByteArray) : Option (ByteArray) := if (a0.size : Int) > 100 then (if 0 ≤ 100 then (if 100 ≤ (a0.size : Int) then (some (a0.extract 0 100)) else (none)) else (none)) else (some a0)
set_option maxHeartbeats 8000000 in
set_option maxRecDepth 100000 in
theorem tolllaw01_Few.calls (a0 : ByteArray) (r : ByteArray) (w : World) (h : tolllaw01_Few.f a0 = some r) :
  Calls Tryz.prog 11 #[.string a0] w fun e w' => e = .returned (.string r) ∧ Drawn0 w w' := by
 have H : (if (a0.size : Int) > 100 then (if 0 ≤ 100 then (if 100 ≤ (a0.size : Int) then (some (a0.extract 0 100)) else (none)) else (none)) else (some a0)) = some r := h
 clear h
 by_cases c2 : (a0.size : Int) > 100
 ·rw [if_pos c2] at H
  have c2b0 : decide (100 < (a0.size : Int)) = true := decide_eq_true c2
  have c2b1 : decide (100 < a0.size) = true := decide_eq_true (by omega)
  clear c2
  by_cases c3 : 0 ≤ 100
  ·rw [if_pos c3] at H
   have c3b0 := eq_true c3
   have c3b1 : decide (0 ≤ 100) = true := decide_eq_true c3
   clear c3
   by_cases c4 : 100 ≤ (a0.size : Int)
   ·rw [if_pos c4] at H
    have c4b0 := eq_true c4
    have c4b1 : decide (100 ≤ (a0.size : Int)) = true := decide_eq_true c4
    clear c4
    obtain rfl := Option.some.inj H
    go_enter Tryz.func11, Tryz.ntmps11
    go_wp2
    go_ret
    exact ⟨by first | rfl | (simp; done) | (simp [*]; done) | (simp [bne_nil_isEmpty, beq_nil_isEmpty]; done) | (simp [*, bne_nil_isEmpty, beq_nil_isEmpty]; done), by repeat (first | exact Drawn0.refl _ | apply Drawn0.step)⟩
   ·rw [if_neg c4] at H
    exact absurd H (by simp)
  ·rw [if_neg c3] at H
   exact absurd H (by simp)
 ·rw [if_neg c2] at H
  have c2b0 : decide (100 < (a0.size : Int)) = false := decide_eq_false c2
  have c2b1 : decide (100 < a0.size) = false := decide_eq_false (by omega)
  clear c2
  obtain rfl := Option.some.inj H
  go_enter Tryz.func11, Tryz.ntmps11
  go_wp2
  go_ret
  exact ⟨by first | rfl | (simp; done) | (simp [*]; done) | (simp [bne_nil_isEmpty, beq_nil_isEmpty]; done) | (simp [*, bne_nil_isEmpty, beq_nil_isEmpty]; done), by repeat (first | exact Drawn0.refl _ | apply Drawn0.step)⟩

/-! ### tolllaw05_Few: function 12 -/
mutual
def tolllaw05_Few.l0 : Nat → List (S51) → List (S51) → Int → Option ((List (S51)))
 | 0, _, _, _ => none
 | k + 1, x0, x3, x4 => if x4 < (x0.length : Int) then (tolllaw05_Few.j1 k x0 x3 x4 (decide (x4 < 31))) else (tolllaw05_Few.j1 k x0 x3 x4 false)
def tolllaw05_Few.j1 : Nat → List (S51) → List (S51) → Int → Bool → Option ((List (S51)))
 | 0, _, _, _, _ => none
 | k + 1, x0, x3, x4, x12 => if x12 = true then (if 0 ≤ x4 then (if x4 < (x0.length : Int) then ((tolllaw01_Few.f ((rd_T51 x0 x4).f0)).bind fun t102 => ((tolllaw01_Few.f ((rd_T51 x0 x4).f1)).bind fun t104 => (if x3.length < 4398046511104 then (tolllaw05_Few.l0 k x0 (x3 ++ [(⟨t102, t104⟩ : S51)]) (wrap64 (x4 + 1))) else (none)))) else (none)) else (none)) else (some x3)
end
def tolllaw05_Few.f (k : Nat) (l0 : List (S51)) : Option ((List (S51))) := tolllaw05_Few.l0 k l0 ([] : List (S51)) 0
theorem tolllaw05_Few.mono_l : ∀ k, (∀ y0 y1 y2, LeO (tolllaw05_Few.l0 k y0 y1 y2) (tolllaw05_Few.l0 (k + 1) y0 y1 y2)) ∧ (∀ y0 y1 y2 y3, LeO (tolllaw05_Few.j1 k y0 y1 y2 y3) (tolllaw05_Few.j1 (k + 1) y0 y1 y2 y3))
 | 0 => ⟨fun _ _ _ r h => by simp [tolllaw05_Few.l0] at h, fun _ _ _ _ r h => by simp [tolllaw05_Few.j1] at h⟩
 | k + 1 => by
  obtain ⟨ih0, ih1⟩ := tolllaw05_Few.mono_l k
  refine ⟨?_, ?_⟩
  ·intro y0 y1 y2
   unfold tolllaw05_Few.l0
   repeat' first
   | (with_reducible exact ih0 _ _ _)
   | (with_reducible exact ih1 _ _ _ _)
   | (with_reducible exact LeO.refl _)
   | (with_reducible exact LeO.none _)
   | (with_reducible refine LeO.ite ?_ ?_)
   | (with_reducible refine LeO.bind ?_ (fun _ => ?_))
   | exact ih0 _ _ _
   | exact ih1 _ _ _ _
   | exact LeO.none _
   | refine LeO.ite ?_ ?_
   | refine LeO.bind ?_ (fun _ => ?_)
  ·intro y0 y1 y2 y3
   unfold tolllaw05_Few.j1
   repeat' first
   | (with_reducible exact ih0 _ _ _)
   | (with_reducible exact ih1 _ _ _ _)
   | (with_reducible exact LeO.refl _)
   | (with_reducible exact LeO.none _)
   | (with_reducible refine LeO.ite ?_ ?_)
   | (with_reducible refine LeO.bind ?_ (fun _ => ?_))
   | exact ih0 _ _ _
   | exact ih1 _ _ _ _
   | exact LeO.none _
   | refine LeO.ite ?_ ?_
   | refine LeO.bind ?_ (fun _ => ?_)
theorem tolllaw05_Few.mono : ∀ a0 k, LeO (tolllaw05_Few.f k a0) (tolllaw05_Few.f (k + 1) a0) := by
 intro a0 k
 obtain ⟨ih0, ih1⟩ := tolllaw05_Few.mono_l k
 unfold tolllaw05_Few.f
 repeat' first
   | (with_reducible exact ih0 _ _ _)
   | (with_reducible exact ih1 _ _ _ _)
   | (with_reducible exact LeO.refl _)
   | (with_reducible exact LeO.none _)
   | (with_reducible refine LeO.ite ?_ ?_)
   | (with_reducible refine LeO.bind ?_ (fun _ => ?_))
   | exact ih0 _ _ _
   | exact ih1 _ _ _ _
   | exact LeO.none _
   | refine LeO.ite ?_ ?_
   | refine LeO.bind ?_ (fun _ => ?_)
def tolllaw05_Few.T5 : Bool × List (List Nat × List Nat) := (true, [([], []), ([], []), ([], []), ([1, 2], [1, 2]), ([3], [3]), ([4], [4]), ([5], [5]), ([], []), ([], []), ([7, 8], [7, 8]), ([9], [9]), ([10], [10]), ([11, 6], [11]), ([6, 12], [6, 12]), ([13], [13]), ([0, 14, 12], [0, 14]), ([15, 15, 0, 1, 2, 3, 4, 5, 6, 7, 8, 9, 10, 11, 12, 13, 14, 15], [0, 15])])
def tolllaw05_Few.B5 : List Nat := [0, 0, 0, 6, 14, 30, 62, 0, 0, 384, 896, 1920, 4094, 8190, 16382, 32767, 65535]
theorem tolllaw05_Few.tab5 : rtab .any (opsOf Tryz.f12 5) = tolllaw05_Few.T5 := by kernel_rfl
theorem tolllaw05_Few.bits5 : waitsOk tolllaw05_Few.T5.2 tolllaw05_Few.B5 = true := by kernel_rfl
set_option maxHeartbeats 8000000 in
set_option maxRecDepth 100000 in
theorem tolllaw05_Few.calls (k : Nat) (A0 : Option Addr) (c0 : Nat) (l0 : List (S51)) (r : List (S51)) (w : World) (hr0 : Kd.C k51 w A0 l0.length l0) (hc0 : l0.length ≤ c0) (h : tolllaw05_Few.f k l0 = some r) :
  Calls Tryz.prog 12 #[.slice A0 l0.length c0] w fun e w' => ∃ v0_ : Value, e = .returned (v0_) ∧ Kd.R k51 51 w' w.heap.size (fun _ => True) v0_ r ∧ Below w.heap.size w w' := by
 have hu51 := Tryz.underlying51
 have HR0 := Aside0.mk hr0
 have HC0 := Aside0.mk hc0
 clear hr0 hc0
 have HB := am_ (Below.refl w.heap.size w)
 have H : (tolllaw05_Few.l0 k l0 ([] : List (S51)) 0) = some r := h
 clear h
 have H' := Aside0.mk H
 clear H
 go_enter Tryz.func12, Tryz.ntmps12
 go_wp2
 go_loopg [3, 4] k (fun kq v3 v4 w' => ∃ (x3_1 : List (S51)) (x4_1 : Int), v4 = .int .i64 x4_1 ∧ Aside0 (tolllaw05_Few.l0 kq l0 x3_1 x4_1 = some r) ∧ Aside0 (kq ≤ k) ∧ Aside0 (Kd.R k51 51 w' w.heap.size (fun _ => True) v3 x3_1) ∧ Aside0 (Below w.heap.size w w'))
 case atStart => exact ⟨(([] : List (S51))), (0), sd_, H', ⟨Nat.le_refl _⟩, ⟨by first | exact Kd.R_nil _ _ _ _ _ | exact Kd.N_nil _ _ _ _ _ | exact Kd.V_nil _ _ _ _ _ | exact Kd.Q_nil _ _ _ _ _ | exact Kd.S_nil _ _ _ _ _⟩, ⟨bel_ HB.out⟩⟩
 case round =>
  clear H'
  try clear c1
  obtain ⟨x3_1, x4_1, rfl, HA, HK1, HO_3, HB⟩ := hrel
  cases gk with
  | zero => exact absurd HA.out (by simp [tolllaw05_Few.l0])
  | succ k1 =>
   have H := HA.out
   clear HA
   simp only [tolllaw05_Few.l0] at H
   have HC2 := Aside0.mk H
   clear H
   go_upto_region 3 with (fail)
   go_cut [12] (fun v12 wc => ∃ (kq : Nat) (x12_1 : Bool), v12 = .bool x12_1 ∧ Aside0 (tolllaw05_Few.j1 kq l0 x3_1 x4_1 x12_1 = some r) ∧ Aside0 (kq ≤ k1) ∧ Aside0 (Kd.R k51 51 wc w.heap.size (fun _ => True) u3 x3_1) ∧ Aside0 (Below w.heap.size w wc))
   case first =>
    have H := HC2.out
    clear HC2
    by_cases c3 : x4_1 < (l0.length : Int)
    ·rw [if_pos c3] at H
     have c3b0 : decide (x4_1 < (l0.length : Int)) = true := decide_eq_true c3
     clear c3
     (first | rw [c3b0] | rw [c3b1] | rw [c3b2] | (simp only [i64_w, i32_w]; rw [c3b0]) | skip)
     have H' := Aside0.mk H
     clear H
     go_wp2
     go_meet
     case rel => exact ⟨_, (decide (x4_1 < 31)), sd_, H', ⟨by have := HK1.out; first | omega | exact Nat.le_refl _⟩, ⟨by (with_reducible repeat (first | apply Kd.R_alloc | apply Kd.R_drewN | apply Kd.R_drew)); exact HO_3.out⟩, ⟨bel_ HB.out⟩⟩
    ·rw [if_neg c3] at H
     have c3b0 : decide (x4_1 < (l0.length : Int)) = false := decide_eq_false c3
     clear c3
     (first | rw [c3b0] | rw [c3b1] | rw [c3b2] | (simp only [i64_w, i32_w]; rw [c3b0]) | skip)
     have H' := Aside0.mk H
     clear H
     go_wp2
     go_meet
     case rel => exact ⟨_, (false), sd_, H', ⟨by have := HK1.out; first | omega | exact Nat.le_refl _⟩, ⟨by (with_reducible repeat (first | apply Kd.R_alloc | apply Kd.R_drewN | apply Kd.R_drew)); exact HO_3.out⟩, ⟨bel_ HB.out⟩⟩
   case rest =>
    clear HC2
    try clear c1
    try clear p2
    try clear c3
    try clear c3b0
    try clear c3b1
    try clear c3b2
    obtain ⟨kq, x12_1, rfl, HA, HJ1, HO_3, HB⟩ := hcut
    cases kq with
    | zero => exact absurd HA.out (by simp [tolllaw05_Few.j1])
    | succ kj1 =>
     have H := HA.out
     clear HA
     simp only [tolllaw05_Few.j1] at H
     by_cases c4 : x12_1 = true
     ·subst c4
      have H1 : (if 0 ≤ x4_1 then (if x4_1 < (l0.length : Int) then ((tolllaw01_Few.f ((rd_T51 l0 x4_1).f0)).bind fun t102 => ((tolllaw01_Few.f ((rd_T51 l0 x4_1).f1)).bind fun t104 => (if x3_1.length < 4398046511104 then (tolllaw05_Few.l0 kj1 l0 (x3_1 ++ [(⟨t102, t104⟩ : S51)]) (wrap64 (x4_1 + 1))) else (none)))) else (none)) else (none)) = some r := by rw [if_pos rfl] at H; exact H
      clear H
      have H := H1
      clear H1
      by_cases c5 : 0 ≤ x4_1
      ·rw [if_pos c5] at H
       have c5b0 : decide (0 ≤ x4_1) = true := decide_eq_true c5
       clear c5
       by_cases c6 : x4_1 < (l0.length : Int)
       ·rw [if_pos c6] at H
        have c6b0 : decide (x4_1 < (l0.length : Int)) = true := decide_eq_true c6
        clear c6
        replace H := Option.bind_eq_some_iff.mp H
        obtain ⟨t102, A70, H⟩ := H
        replace H : ((tolllaw01_Few.f ((rd_T51 l0 x4_1).f1)).bind fun t104 => (if x3_1.length < 4398046511104 then (tolllaw05_Few.l0 kj1 l0 (x3_1 ++ [(⟨t102, t104⟩ : S51)]) (wrap64 (x4_1 + 1))) else (none))) = some r := H
        have A7 := Aside0.mk A70
        clear A70
        replace H := Option.bind_eq_some_iff.mp H
        obtain ⟨t104, A80, H⟩ := H
        replace H : (if x3_1.length < 4398046511104 then (tolllaw05_Few.l0 kj1 l0 (x3_1 ++ [(⟨t102, t104⟩ : S51)]) (wrap64 (x4_1 + 1))) else (none)) = some r := H
        have A8 := Aside0.mk A80
        clear A80
        by_cases c9 : x3_1.length < 4398046511104
        ·rw [if_pos c9] at H
         have LMc9 := Aside0.mk c9
         clear c9
         obtain ⟨y105, hy105⟩ : ∃ y_ : List (S51), y_ = (x3_1 ++ [(⟨t102, t104⟩ : S51)]) := ⟨_, rfl⟩
         replace H : (tolllaw05_Few.l0 kj1 l0 y105 (wrap64 (x4_1 + 1))) = some r := by first | (rw [hy105]; with_reducible exact H) | (have H2_ := (Option.bind_some _ _).symm.trans H; rw [hy105]; with_reducible exact H2_) | (have H2_ := (Option.bind_some _ _).symm.trans H; with_reducible exact H2_) | with_reducible exact H | (rw [hy105]; exact H) | exact H
         have Ny105 := Aside0.mk hy105
         clear hy105
         have H' := Aside0.mk H
         clear H
         try go_wp2
         have n0_ := am_ (Kd.R_drew HO_3.out)
         have n1_ := am_ (below_drew1 HB.out)
         clear HO_3 HB
         have HO_3 := n0_
         have HB := n1_
         clear n0_ n1_
         have p101 : 0 ≤ (x4_1 : Int) := of_decide_eq_true as_
         have q101 : x4_1 < (l0.length : Int) := of_decide_eq_true as_
         obtain ⟨ad101, e101, hx101_0, hx101_1⟩ := at_T51 HR0.out x4_1 p101 q101
         have hw101_1 := hx101_1
         have hw101_0 := hx101_0
         cases e101
         replace hx101_0 := (HB.out.cell (World.block_lt_of_cell? w _ hx101_0)).trans hx101_0
         replace hx101_1 := (HB.out.cell (World.block_lt_of_cell? w _ hx101_1)).trans hx101_1
         replace p101 := eq_true p101
         replace q101 := eq_true q101
         have p103 : 0 ≤ (x4_1 : Int) := of_decide_eq_true as_
         have q103 : x4_1 < (l0.length : Int) := of_decide_eq_true as_
         obtain ⟨ad103, e103, hx103_0, hx103_1⟩ := at_T51 HR0.out x4_1 p103 q103
         have hw103_1 := hx103_1
         have hw103_0 := hx103_0
         obtain rfl : ad101 = ad103 := (by injection e103)
         replace hx103_0 := (HB.out.cell (World.block_lt_of_cell? w _ hx103_0)).trans hx103_0
         replace hx103_1 := (HB.out.cell (World.block_lt_of_cell? w _ hx103_1)).trans hx103_1
         replace p103 := eq_true p103
         replace q103 := eq_true q103
         refine start_ (n := 17) (S := fun w' => w'.cell? (ad101.add ((x4_1).toNat * 2)) = some (.string ((rd_T51 l0 x4_1).f0)) ∧ w'.cell? ⟨(ad101.add ((x4_1).toNat * 2)).block, (ad101.add ((x4_1).toNat * 2)).off + 1, none⟩ = some (.string ((rd_T51 l0 x4_1).f1)) ∧ w'.cell? (ad101.add ((x4_1).toNat * 2)) = some (.string ((rd_T51 l0 x4_1).f0)) ∧ w'.cell? ⟨(ad101.add ((x4_1).toNat * 2)).block, (ad101.add ((x4_1).toNat * 2)).off + 1, none⟩ = some (.string ((rd_T51 l0 x4_1).f1))) (ds := []) #[false, false, false, false, false, false, false, false, false, false, false, false, false, false, false, false, false] kr_ rfl rfl ⟨((HB.out.cell (World.block_lt_of_cell? w _ hw101_0)).trans hw101_0), ((HB.out.cell (World.block_lt_of_cell? w _ hw101_1)).trans hw101_1), ((HB.out.cell (World.block_lt_of_cell? w _ hw103_0)).trans hw103_0), ((HB.out.cell (World.block_lt_of_cell? w _ hw103_1)).trans hw103_1)⟩ (fun hHeld => ?_); refine with_tabW tolllaw05_Few.tab5 tolllaw05_Few.bits5 (fun HT_ HW_ => ?_)
         generalize wc.drew = w10 at HO_3 HB hx101_0 hx101_1 hx103_0 hx103_1 hHeld ⊢
         refine pure_ (i := 0) (N := some 15) (v := ?_) (a' := ?_) #[true, false, false, false, false, false, false, false, false, false, false, false, false, false, false, false, false] rfl rfl (any_of HT_.out kr_) (fun _ _ _ h => h) (Or.inl ⟨by rfl, ?_⟩) ?_ ?_
         rotate_left
         ·intro w'
          go_simp
          with_reducible rfl
         rotate_left
         ·simp only [Act.put, sx_, s0_, s1_, i64_w, i32_w]
          rfl
         refine pure_ (i := 1) (N := some 16) (v := ?_) (a' := ?_) #[true, true, false, false, false, false, false, false, false, false, false, false, false, false, false, false, false] rfl rfl (any_of HT_.out kr_) (fun _ _ _ h => h) (Or.inl ⟨by rfl, ?_⟩) ?_ ?_
         rotate_left
         ·intro w'
          go_simp
          with_reducible rfl
         rotate_left
         ·simp only [Act.put, sx_, s0_, s1_, i64_w, i32_w]
          rfl
         refine pure_ (i := 2) (N := some 17) (v := ?_) (a' := ?_) #[true, true, true, false, false, false, false, false, false, false, false, false, false, false, false, false, false] rfl rfl (any_of HT_.out kr_) (fun _ _ _ h => h) (Or.inl ⟨by rfl, ?_⟩) ?_ ?_
         rotate_left
         ·intro w'
          go_simp
          with_reducible rfl
         rotate_left
         ·simp only [Act.put, sx_, s0_, s1_, i64_w, i32_w]
          rfl
         refine pure_ (i := 3) (N := some 18) (v := ?_) (a' := ?_) #[true, true, true, true, false, false, false, false, false, false, false, false, false, false, false, false, false] rfl rfl (any_of HT_.out kr_) (fun _ _ _ h => h) (Or.inl ⟨by rfl, ?_⟩) ?_ ?_
         rotate_left
         ·intro w'
          go_simp
          with_reducible rfl
         rotate_left
         ·simp only [Act.put, sx_, s0_, s1_, i64_w, i32_w]
          rfl
         refine pure_ (i := 4) (N := some 19) (v := ?_) (a' := ?_) #[true, true, true, true, true, false, false, false, false, false, false, false, false, false, false, false, false] rfl rfl (any_of HT_.out kr_) (fun _ _ _ h => h) (Or.inl ⟨by rfl, ?_⟩) ?_ ?_
         rotate_left
         ·intro w'
          go_simp
          with_reducible rfl
         rotate_left
         ·simp only [Act.put, sx_, s0_, s1_, i64_w, i32_w]
          rfl
         refine pure_ (i := 7) (N := some 22) (v := ?_) (a' := ?_) #[true, true, true, true, true, false, false, true, false, false, false, false, false, false, false, false, false] rfl rfl (any_of HT_.out kr_) (fun _ _ _ h => h) (Or.inl ⟨by rfl, ?_⟩) ?_ ?_
         rotate_left
         ·intro w'
          go_simp
          with_reducible rfl
         rotate_left
         ·simp only [Act.put, sx_, s0_, s1_, i64_w, i32_w]
          rfl
         refine pure_ (i := 8) (N := some 23) (v := ?_) (a' := ?_) #[true, true, true, true, true, false, false, true, true, false, false, false, false, false, false, false, false] rfl rfl (any_of HT_.out kr_) (fun _ _ _ h => h) (Or.inl ⟨by rfl, ?_⟩) ?_ ?_
         rotate_left
         ·intro w'
          go_simp
          with_reducible rfl
         rotate_left
         ·simp only [Act.put, sx_, s0_, s1_, i64_w, i32_w]
          rfl
         refine pure_ (i := 9) (N := some 24) (v := ?_) (a' := ?_) #[true, true, true, true, true, false, false, true, true, true, false, false, false, false, false, false, false] rfl rfl (any_of HT_.out kr_) (fun _ _ _ h => h) (Or.inl ⟨by rfl, ?_⟩) ?_ ?_
         rotate_left
         ·intro w'
          go_simp
          with_reducible rfl
         rotate_left
         ·simp only [Act.put, sx_, s0_, s1_, i64_w, i32_w]
          rfl
         refine pure_ (i := 10) (N := some 25) (v := ?_) (a' := ?_) #[true, true, true, true, true, false, false, true, true, true, true, false, false, false, false, false, false] rfl rfl (any_of HT_.out kr_) (fun _ _ _ h => h) (Or.inl ⟨by rfl, ?_⟩) ?_ ?_
         rotate_left
         ·intro w'
          go_simp
          with_reducible rfl
         rotate_left
         ·simp only [Act.put, sx_, s0_, s1_, i64_w, i32_w]
          rfl
         refine take_ (i := 5) (N := some 20) (v := ?_) (a' := ?_) #[true, true, true, true, true, true, false, true, true, true, true, false, false, false, false, false, false] rfl rfl (take_ofW HT_.out HW_.out kr_) (fun _ _ _ h => h) (Or.inl ⟨by rfl, ?_⟩) hHeld ?_ ?_
         rotate_left
         ·rintro w' ⟨s0, s1, s2, s3⟩
          go_simp
          with_reducible rfl
         rotate_left
         ·simp only [Act.put, sx_, s0_, s1_, i64_w, i32_w]
          rfl
         refine take_ (i := 11) (N := some 26) (v := ?_) (a' := ?_) #[true, true, true, true, true, true, false, true, true, true, true, true, false, false, false, false, false] rfl rfl (take_ofW HT_.out HW_.out kr_) (fun _ _ _ h => h) (Or.inl ⟨by rfl, ?_⟩) hHeld ?_ ?_
         rotate_left
         ·rintro w' ⟨s0, s1, s2, s3⟩
          go_simp
          with_reducible rfl
         rotate_left
         ·simp only [Act.put, sx_, s0_, s1_, i64_w, i32_w]
          rfl
         refine one_ (i := 6) (N := some 21) #[true, true, true, true, true, true, true, true, true, true, true, true, false, false, false, false, false] rfl rfl (one_of HT_.out kr_) (by decide) (fun K hK => ?_)
         refine goes_ Tryz.func11 kr_ rfl #[.string ((rd_T51 l0 x4_1).f0)] (by rfl) rfl rfl rl_ ?_
         with_reducible refine (tolllaw01_Few.calls ((rd_T51 l0 x4_1).f0) t102 _ A7.out).mono ?_
         rintro e w' ⟨rfl, ⟨nd, rfl⟩⟩
         refine ⟨_, rfl, ?_⟩
         refine hK.out _ _ ⟨((HB.out.cell (World.block_lt_of_cell? w _ hw101_0)).trans hw101_0), ((HB.out.cell (World.block_lt_of_cell? w _ hw101_1)).trans hw101_1), ((HB.out.cell (World.block_lt_of_cell? w _ hw103_0)).trans hw103_0), ((HB.out.cell (World.block_lt_of_cell? w _ hw103_1)).trans hw103_1)⟩ (fun hHeld => ?_)
         clear hK K
         refine norm_ (a' := ?_) ?_ ?_
         rotate_left
         ·show Act.put _ (some 21) _ = _
          simp only [Act.put, sx_, s0_, s1_, i64_w, i32_w]
          rfl
         refine one_ (i := 12) (N := some 27) #[true, true, true, true, true, true, true, true, true, true, true, true, true, false, false, false, false] rfl rfl (one_of HT_.out kr_) (by decide) (fun K hK => ?_)
         refine goes_ Tryz.func11 kr_ rfl #[.string ((rd_T51 l0 x4_1).f1)] (by rfl) rfl rfl rl_ ?_
         with_reducible refine (tolllaw01_Few.calls ((rd_T51 l0 x4_1).f1) t104 _ A8.out).mono ?_
         rintro e w' ⟨rfl, ⟨nd, rfl⟩⟩
         refine ⟨_, rfl, ?_⟩
         refine hK.out _ _ ⟨((HB.out.cell (World.block_lt_of_cell? w _ hw101_0)).trans hw101_0), ((HB.out.cell (World.block_lt_of_cell? w _ hw101_1)).trans hw101_1), ((HB.out.cell (World.block_lt_of_cell? w _ hw103_0)).trans hw103_0), ((HB.out.cell (World.block_lt_of_cell? w _ hw103_1)).trans hw103_1)⟩ (fun hHeld => ?_)
         clear hK K
         refine norm_ (a' := ?_) ?_ ?_
         rotate_left
         ·show Act.put _ (some 27) _ = _
          simp only [Act.put, sx_, s0_, s1_, i64_w, i32_w]
          rfl
         refine pure_ (i := 13) (N := some 28) (v := ?_) (a' := ?_) #[true, true, true, true, true, true, true, true, true, true, true, true, true, true, false, false, false] rfl rfl (any_of HT_.out kr_) (fun _ _ _ h => h) (Or.inl ⟨by rfl, ?_⟩) ?_ ?_
         rotate_left
         ·intro w'
          go_simp
          with_reducible rfl
         rotate_left
         ·simp only [Act.put, sx_, s0_, s1_, i64_w, i32_w]
          rfl
         refine one_ (i := 14) (N := some 29) #[true, true, true, true, true, true, true, true, true, true, true, true, true, true, true, false, false] rfl rfl (one_of HT_.out kr_) (by decide) (fun K hK => ?_)
         refine value_ (w1 := ?_) (v := ?_) (by rfl) rfl ?_ ?_
         rotate_left 2
         ·go_simp
          constructor
          ·rfl
          ·rfl
         refine hK.out _ _ ⟨(World.cell?_alloc_lt _ _ _ (World.block_lt_of_cell? _ _ (((HB.out.cell (World.block_lt_of_cell? w _ hw101_0)).trans hw101_0)))).trans (((HB.out.cell (World.block_lt_of_cell? w _ hw101_0)).trans hw101_0)), (World.cell?_alloc_lt _ _ _ (World.block_lt_of_cell? _ _ (((HB.out.cell (World.block_lt_of_cell? w _ hw101_1)).trans hw101_1)))).trans (((HB.out.cell (World.block_lt_of_cell? w _ hw101_1)).trans hw101_1)), (World.cell?_alloc_lt _ _ _ (World.block_lt_of_cell? _ _ (((HB.out.cell (World.block_lt_of_cell? w _ hw103_0)).trans hw103_0)))).trans (((HB.out.cell (World.block_lt_of_cell? w _ hw103_0)).trans hw103_0)), (World.cell?_alloc_lt _ _ _ (World.block_lt_of_cell? _ _ (((HB.out.cell (World.block_lt_of_cell? w _ hw103_1)).trans hw103_1)))).trans (((HB.out.cell (World.block_lt_of_cell? w _ hw103_1)).trans hw103_1))⟩ (fun hHeld => ?_)
         clear hK K
         refine norm_ (a' := ?_) ?_ ?_
         rotate_left
         ·show Act.put _ (some 29) _ = _
          simp only [Act.put, sx_, s0_, s1_, i64_w, i32_w]
          rfl
         refine one_ (i := 15) (N := some 30) #[true, true, true, true, true, true, true, true, true, true, true, true, true, true, true, true, false] rfl rfl (one_of HT_.out kr_) (by decide) (fun K hK => ?_)
         refine Kd.R_append_step k51 (w0 := w) w.heap.size (by rfl) (.tmp 15) (.tmp 29) 22 51 (.agg #[(.string ⟨#[]⟩), (.string ⟨#[]⟩)]) 32 rfl Tryz.underlying22 info51 rfl (by decide) (by omega) u3 x3_1 (⟨t102, t104⟩ : S51) [.string t102, .string t104] (fun _ => True) (fun _ => False) rfl rfl ?aP (fun _ hk => hk.elim) ?aF ?aO ?aB ?aS ?aL ?_
         (case aP => exact k51_mkM _ _ _ (⟨t102, t104⟩ : S51))
         (case aB => exact (bel_ HB.out))
         (case aF => exact (fun _ _ => trivial))
         (case aO => exact (R_ HO_3.out))
         (case aS => exact (below_size (bel_ HB.out)))
         (case aL => have := LMc9.out; omega)
         intro v106 w11 ho hb hg hat
         rw [← Ny105.out] at ho
         have n0_ := am_ (hb)
         have n1_ := am_ (ho)
         clear HB HO_3
         have HB := n0_
         have HO107 := n1_
         clear n0_ n1_ ho hb hg hat
         refine hK.out _ _ ⟨((HB.out.cell (World.block_lt_of_cell? w _ hw101_0)).trans hw101_0), ((HB.out.cell (World.block_lt_of_cell? w _ hw101_1)).trans hw101_1), ((HB.out.cell (World.block_lt_of_cell? w _ hw103_0)).trans hw103_0), ((HB.out.cell (World.block_lt_of_cell? w _ hw103_1)).trans hw103_1)⟩ (fun hHeld => ?_)
         clear hK K
         refine norm_ (a' := ?_) ?_ ?_
         rotate_left
         ·show Act.put _ (some 30) _ = _
          simp only [Act.put, sx_, s0_, s1_, i64_w, i32_w]
          rfl
         refine pure_ (i := 16) (N := some 3) (v := ?_) (a' := ?_) #[true, true, true, true, true, true, true, true, true, true, true, true, true, true, true, true, true] rfl rfl (any_of HT_.out kr_) (fun _ _ _ h => h) (Or.inl ⟨by rfl, ?_⟩) ?_ ?_
         rotate_left
         ·intro w'
          go_simp
          with_reducible rfl
         rotate_left
         ·simp only [Act.put, sx_, s0_, s1_, i64_w, i32_w]
          rfl
         refine done_ (done_of HT_.out kr_) ?_
         try go_wp2
         go_roundg kj1
         case measure => have := HK1.out; have := HJ1.out; omega
         case rel => exact ⟨(y105), (wrap64 (x4_1 + 1)), sd_, H', ⟨by have := HK1.out; have := HJ1.out; omega⟩, ⟨by (with_reducible repeat (first | apply Kd.R_alloc | apply Kd.R_drewN | apply Kd.R_drew)); exact HO107.out⟩, ⟨bel_ HB.out⟩⟩
        ·rw [if_neg c9] at H
         exact absurd H (by simp)
       ·rw [if_neg c6] at H
        exact absurd H (by simp)
      ·rw [if_neg c5] at H
       exact absurd H (by simp)
     ·replace c4 := Bool.eq_false_iff.mpr c4
      subst c4
      have H1 : (some x3_1) = some r := by rw [if_neg (show ¬ (false = true) by decide)] at H; exact H
      clear H
      have H := H1
      clear H1
      obtain rfl := Option.some.inj H
      go_wp2
      go_ret
      exact ⟨_, by first | rfl | (simp [errW_none, errW_some] <;> rfl) | (simp [*, errW_none, errW_some] <;> rfl), by (with_reducible repeat (first | apply Kd.R_alloc | apply Kd.R_drewN | apply Kd.R_drew)); exact HO_3.out, bel_ HB.out⟩

/-! ### tolllaw06_Asked: function 4 -/
def tolllaw06_Asked.f (k : Nat) (a0_0 : ByteArray) (a0_1 : ByteArray) (a0_2 : ByteArray) (l0_3 : List (S51)) (l0_4 : List (S51)) : Option (ByteArray × ByteArray × ByteArray × (List (S51)) × (List (S51))) := (tolllaw01_Few.f a0_0).bind fun t110 => ((tolllaw01_Few.f a0_1).bind fun t111 => ((tolllaw01_Few.f a0_2).bind fun t112 => ((tolllaw05_Few.f k l0_3).bind fun t113 => ((tolllaw05_Few.f k l0_4).bind fun t116 => (some (t110, t111, t112, t113, t116))))))
theorem tolllaw06_Asked.mono : ∀ a0 a1 a2 a3 a4 k, LeO (tolllaw06_Asked.f k a0 a1 a2 a3 a4) (tolllaw06_Asked.f (k + 1) a0 a1 a2 a3 a4) := by
 intro a0 a1 a2 a3 a4 k
 unfold tolllaw06_Asked.f
 repeat' first
   | (with_reducible exact tolllaw05_Few.mono _ _)
   | (with_reducible exact LeO.refl _)
   | (with_reducible exact LeO.none _)
   | (with_reducible refine LeO.ite ?_ ?_)
   | (with_reducible refine LeO.bind ?_ (fun _ => ?_))
   | exact tolllaw05_Few.mono _ _
   | exact LeO.none _
   | refine LeO.ite ?_ ?_
   | refine LeO.bind ?_ (fun _ => ?_)
def tolllaw06_Asked.T1 : Bool × List (List Nat × List Nat) := (true, [([], []), ([0], [0]), ([1], [1]), ([], []), ([3], [3]), ([4, 2], [4]), ([], []), ([6], [6]), ([7, 5], [7]), ([], []), ([9], [9]), ([10, 8], [10]), ([], []), ([12], [12]), ([13, 11], [13]), ([2, 5, 8, 11, 14], [2, 5, 8, 11, 14]), ([15, 14, 0, 1, 2, 3, 4, 5, 6, 7, 8, 9, 10, 11, 12, 13, 14, 15], [15])])
def tolllaw06_Asked.B1 : List Nat := [0, 1, 3, 0, 8, 31, 0, 64, 255, 0, 512, 2047, 0, 4096, 16383, 32767, 65535]
theorem tolllaw06_Asked.tab1 : rtab .any (opsOf Tryz.f4 1) = tolllaw06_Asked.T1 := by kernel_rfl
theorem tolllaw06_Asked.bits1 : waitsOk tolllaw06_Asked.T1.2 tolllaw06_Asked.B1 = true := by kernel_rfl
set_option maxHeartbeats 8000000 in
set_option maxRecDepth 100000 in
theorem tolllaw06_Asked.calls (k : Nat) (a0_0 : ByteArray) (a0_1 : ByteArray) (a0_2 : ByteArray) (A0_3 : Option Addr) (c0_3 : Nat) (l0_3 : List (S51)) (A0_4 : Option Addr) (c0_4 : Nat) (l0_4 : List (S51)) (r1 : ByteArray) (r2 : ByteArray) (r3 : ByteArray) (r4 : List (S51)) (r5 : List (S51)) (w : World) (hr0_3 : Kd.C k51 w A0_3 l0_3.length l0_3) (hc0_3 : l0_3.length ≤ c0_3) (hr0_4 : Kd.C k51 w A0_4 l0_4.length l0_4) (hc0_4 : l0_4.length ≤ c0_4) (h : tolllaw06_Asked.f k a0_0 a0_1 a0_2 l0_3 l0_4 = some (r1, r2, r3, r4, r5)) :
  Calls Tryz.prog 4 #[.agg #[.string a0_0, .string a0_1, .string a0_2, .slice A0_3 l0_3.length c0_3, .slice A0_4 l0_4.length c0_4]] w fun e w' => ∃ v3_ v4_ : Value, e = .returned (.agg #[.string r1, .string r2, .string r3, v3_, v4_]) ∧ Kd.R k51 51 w' w.heap.size (fun k_ => some k_ ≠ (v4_ : Value).ownBlock) v3_ r4 ∧ Kd.R k51 51 w' w.heap.size (fun k_ => some k_ ≠ (v3_ : Value).ownBlock) v4_ r5 ∧ Below w.heap.size w w' := by
 have hu24 := Tryz.underlying24
 have HR0_3 := Aside0.mk hr0_3
 have HC0_3 := Aside0.mk hc0_3
 clear hr0_3 hc0_3
 have HR0_4 := Aside0.mk hr0_4
 have HC0_4 := Aside0.mk hc0_4
 clear hr0_4 hc0_4
 have HB := am_ (Below.refl w.heap.size w)
 have H : ((tolllaw01_Few.f a0_0).bind fun t110 => ((tolllaw01_Few.f a0_1).bind fun t111 => ((tolllaw01_Few.f a0_2).bind fun t112 => ((tolllaw05_Few.f k l0_3).bind fun t113 => ((tolllaw05_Few.f k l0_4).bind fun t116 => (some (t110, t111, t112, t113, t116))))))) = some (r1, r2, r3, r4, r5) := h
 clear h
 replace H := Option.bind_eq_some_iff.mp H
 obtain ⟨t110, A20, H⟩ := H
 replace H : ((tolllaw01_Few.f a0_1).bind fun t111 => ((tolllaw01_Few.f a0_2).bind fun t112 => ((tolllaw05_Few.f k l0_3).bind fun t113 => ((tolllaw05_Few.f k l0_4).bind fun t116 => (some (t110, t111, t112, t113, t116)))))) = some (r1, r2, r3, r4, r5) := H
 have A2 := Aside0.mk A20
 clear A20
 replace H := Option.bind_eq_some_iff.mp H
 obtain ⟨t111, A30, H⟩ := H
 replace H : ((tolllaw01_Few.f a0_2).bind fun t112 => ((tolllaw05_Few.f k l0_3).bind fun t113 => ((tolllaw05_Few.f k l0_4).bind fun t116 => (some (t110, t111, t112, t113, t116))))) = some (r1, r2, r3, r4, r5) := H
 have A3 := Aside0.mk A30
 clear A30
 replace H := Option.bind_eq_some_iff.mp H
 obtain ⟨t112, A40, H⟩ := H
 replace H : ((tolllaw05_Few.f k l0_3).bind fun t113 => ((tolllaw05_Few.f k l0_4).bind fun t116 => (some (t110, t111, t112, t113, t116)))) = some (r1, r2, r3, r4, r5) := H
 have A4 := Aside0.mk A40
 clear A40
 replace H := Option.bind_eq_some_iff.mp H
 obtain ⟨t113, A50, H⟩ := H
 replace H : ((tolllaw05_Few.f k l0_4).bind fun t116 => (some (t110, t111, t112, t113, t116))) = some (r1, r2, r3, r4, r5) := H
 have A5 := Aside0.mk A50
 clear A50
 replace H := Option.bind_eq_some_iff.mp H
 obtain ⟨t116, A60, H⟩ := H
 replace H : (some (t110, t111, t112, t113, t116)) = some (r1, r2, r3, r4, r5) := H
 have A6 := Aside0.mk A60
 clear A60
 simp only [Option.some.injEq, Prod.mk.injEq] at H
 obtain ⟨rfl, rfl, rfl, rfl, rfl⟩ := H
 go_enter Tryz.func4, Tryz.ntmps4
 try go_wp2_with (first | ((with_reducible refine gate_dst (N := 1) rfl ?_); refine box_event ?hg (N := 1) ?hd (cs := #[.string a0_0, .string a0_1, .string a0_2, .slice A0_3 l0_3.length c0_3, .slice A0_4 l0_4.length c0_4]) (t := 24) ?hr ?_; (case hd => rfl); (case hg => rfl); (case hr => first | (go_simp; done) | (go_simp; rfl)); intro gb108 hg w7 hbox hb; have n0_ := am_ (below_step (bel_ HB.out) hb); have n1_ := am_ (hbox); have n2_ := am_ ((by rw [hg]; exact (below_size (bel_ HB.out)) : w.heap.size ≤ gb108)); have n3_ := am_ ((by rw [hg]; exact (below_size (bel_ HB.out)) : w.heap.size ≤ gb108)); clear HB; have HB := n0_; have BK108 := n1_; have GW108 := n2_; have GE108 := n3_; clear n0_ n1_ n2_ n3_ hb hbox hg) | ((with_reducible refine gate_dst (N := 2) rfl ?_); refine box_event ?hg (N := 2) ?hd (cs := #[.string (⟨#[]⟩ : ByteArray), .string (⟨#[]⟩ : ByteArray), .string (⟨#[]⟩ : ByteArray), .slice none 0 0, .slice none 0 0]) (t := 24) ?hr ?_; (case hd => rfl); (case hg => rfl); (case hr => first | (go_simp; done) | (go_simp; rfl)); intro gb109 hg w8 hbox hb; have n0_ := am_ (blk_below (g := gb108) (o := .cells #[.string a0_0, .string a0_1, .string a0_2, .slice A0_3 l0_3.length c0_3, .slice A0_4 l0_4.length c0_4] 24 (0, 0)) (blk_ BK108.out) hb); have n1_ := am_ (below_step (bel_ HB.out) hb); have n2_ := am_ (hbox); have n3_ := am_ ((by rw [hg]; exact (below_size (bel_ HB.out)) : w.heap.size ≤ gb109)); have n4_ := am_ ((by rw [hg]; exact (below_size (bel_ HB.out)) : w.heap.size ≤ gb109)); have n5_ := am_ ((by rw [hg]; exact Nat.ne_of_lt (blk_lt (g := gb108) (o := .cells #[.string a0_0, .string a0_1, .string a0_2, .slice A0_3 l0_3.length c0_3, .slice A0_4 l0_4.length c0_4] 24 (0, 0)) (blk_ BK108.out)) : gb108 ≠ gb109)); have n6_ := am_ ((by rw [hg]; exact Nat.ne_of_gt (blk_lt (g := gb108) (o := .cells #[.string a0_0, .string a0_1, .string a0_2, .slice A0_3 l0_3.length c0_3, .slice A0_4 l0_4.length c0_4] 24 (0, 0)) (blk_ BK108.out)) : gb109 ≠ gb108)); clear BK108 HB; have BK108 := n0_; have HB := n1_; have BK109 := n2_; have GW109 := n3_; have GE109 := n4_; have NB108_109 := n5_; have NB109_108 := n6_; clear n0_ n1_ n2_ n3_ n4_ n5_ n6_ hb hbox hg))
 have n0_ := am_ (blk_drew BK108.out)
 have n1_ := am_ (blk_drew BK109.out)
 have n2_ := am_ (below_drew1 HB.out)
 clear BK108 BK109 HB
 have BK108 := n0_
 have BK109 := n1_
 have HB := n2_
 clear n0_ n1_ n2_
 refine start_ (n := 17) (S := fun w' => w'.cell? ⟨gb108, 0, none⟩ = some (.string a0_0) ∧ w'.cell? ⟨gb108, 1, none⟩ = some (.string a0_1) ∧ w'.cell? ⟨gb108, 2, none⟩ = some (.string a0_2) ∧ w'.cell? ⟨gb108, 3, none⟩ = some (.slice A0_3 l0_3.length c0_3) ∧ w'.cell? ⟨gb108, 4, none⟩ = some (.slice A0_4 l0_4.length c0_4)) (ds := []) #[false, false, false, false, false, false, false, false, false, false, false, false, false, false, false, false, false] kr_ rfl rfl ⟨(blk_cell BK108.out 0).trans rfl, (blk_cell BK108.out 1).trans rfl, (blk_cell BK108.out 2).trans rfl, (blk_cell BK108.out 3).trans rfl, (blk_cell BK108.out 4).trans rfl⟩ (fun hHeld => ?_); refine with_tabW tolllaw06_Asked.tab1 tolllaw06_Asked.bits1 (fun HT_ HW_ => ?_)
 generalize w8.drew = w9 at BK108 BK109 HB hHeld ⊢
 refine pure_ (i := 0) (N := some 3) (v := ?_) (a' := ?_) #[true, false, false, false, false, false, false, false, false, false, false, false, false, false, false, false, false] rfl rfl (any_of HT_.out kr_) (fun _ _ _ h => h) (Or.inl ⟨by rfl, ?_⟩) ?_ ?_
 rotate_left
 ·intro w'
  go_simp
  with_reducible rfl
 rotate_left
 ·simp only [Act.put, sx_, s0_, s1_, i64_w, i32_w]
  rfl
 refine pure_ (i := 3) (N := some 6) (v := ?_) (a' := ?_) #[true, false, false, true, false, false, false, false, false, false, false, false, false, false, false, false, false] rfl rfl (any_of HT_.out kr_) (fun _ _ _ h => h) (Or.inl ⟨by rfl, ?_⟩) ?_ ?_
 rotate_left
 ·intro w'
  go_simp
  with_reducible rfl
 rotate_left
 ·simp only [Act.put, sx_, s0_, s1_, i64_w, i32_w]
  rfl
 refine pure_ (i := 6) (N := some 9) (v := ?_) (a' := ?_) #[true, false, false, true, false, false, true, false, false, false, false, false, false, false, false, false, false] rfl rfl (any_of HT_.out kr_) (fun _ _ _ h => h) (Or.inl ⟨by rfl, ?_⟩) ?_ ?_
 rotate_left
 ·intro w'
  go_simp
  with_reducible rfl
 rotate_left
 ·simp only [Act.put, sx_, s0_, s1_, i64_w, i32_w]
  rfl
 refine pure_ (i := 9) (N := some 12) (v := ?_) (a' := ?_) #[true, false, false, true, false, false, true, false, false, true, false, false, false, false, false, false, false] rfl rfl (any_of HT_.out kr_) (fun _ _ _ h => h) (Or.inl ⟨by rfl, ?_⟩) ?_ ?_
 rotate_left
 ·intro w'
  go_simp
  with_reducible rfl
 rotate_left
 ·simp only [Act.put, sx_, s0_, s1_, i64_w, i32_w]
  rfl
 refine pure_ (i := 12) (N := some 15) (v := ?_) (a' := ?_) #[true, false, false, true, false, false, true, false, false, true, false, false, true, false, false, false, false] rfl rfl (any_of HT_.out kr_) (fun _ _ _ h => h) (Or.inl ⟨by rfl, ?_⟩) ?_ ?_
 rotate_left
 ·intro w'
  go_simp
  with_reducible rfl
 rotate_left
 ·simp only [Act.put, sx_, s0_, s1_, i64_w, i32_w]
  rfl
 refine take_ (i := 1) (N := some 4) (v := ?_) (a' := ?_) #[true, true, false, true, false, false, true, false, false, true, false, false, true, false, false, false, false] rfl rfl (take_ofW HT_.out HW_.out kr_) (fun _ _ _ h => h) (Or.inl ⟨by rfl, ?_⟩) hHeld ?_ ?_
 rotate_left
 ·rintro w' ⟨s0, s1, s2, s3, s4⟩
  go_simp
  with_reducible rfl
 rotate_left
 ·simp only [Act.put, sx_, s0_, s1_, i64_w, i32_w]
  rfl
 refine take_ (i := 4) (N := some 7) (v := ?_) (a' := ?_) #[true, true, false, true, true, false, true, false, false, true, false, false, true, false, false, false, false] rfl rfl (take_ofW HT_.out HW_.out kr_) (fun _ _ _ h => h) (Or.inl ⟨by rfl, ?_⟩) hHeld ?_ ?_
 rotate_left
 ·rintro w' ⟨s0, s1, s2, s3, s4⟩
  go_simp
  with_reducible rfl
 rotate_left
 ·simp only [Act.put, sx_, s0_, s1_, i64_w, i32_w]
  rfl
 refine take_ (i := 7) (N := some 10) (v := ?_) (a' := ?_) #[true, true, false, true, true, false, true, true, false, true, false, false, true, false, false, false, false] rfl rfl (take_ofW HT_.out HW_.out kr_) (fun _ _ _ h => h) (Or.inl ⟨by rfl, ?_⟩) hHeld ?_ ?_
 rotate_left
 ·rintro w' ⟨s0, s1, s2, s3, s4⟩
  go_simp
  with_reducible rfl
 rotate_left
 ·simp only [Act.put, sx_, s0_, s1_, i64_w, i32_w]
  rfl
 refine take_ (i := 10) (N := some 13) (v := ?_) (a' := ?_) #[true, true, false, true, true, false, true, true, false, true, true, false, true, false, false, false, false] rfl rfl (take_ofW HT_.out HW_.out kr_) (fun _ _ _ h => h) (Or.inl ⟨by rfl, ?_⟩) hHeld ?_ ?_
 rotate_left
 ·rintro w' ⟨s0, s1, s2, s3, s4⟩
  go_simp
  with_reducible rfl
 rotate_left
 ·simp only [Act.put, sx_, s0_, s1_, i64_w, i32_w]
  rfl
 refine take_ (i := 13) (N := some 16) (v := ?_) (a' := ?_) #[true, true, false, true, true, false, true, true, false, true, true, false, true, true, false, false, false] rfl rfl (take_ofW HT_.out HW_.out kr_) (fun _ _ _ h => h) (Or.inl ⟨by rfl, ?_⟩) hHeld ?_ ?_
 rotate_left
 ·rintro w' ⟨s0, s1, s2, s3, s4⟩
  go_simp
  with_reducible rfl
 rotate_left
 ·simp only [Act.put, sx_, s0_, s1_, i64_w, i32_w]
  rfl
 refine one_ (i := 2) (N := some 5) #[true, true, true, true, true, false, true, true, false, true, true, false, true, true, false, false, false] rfl rfl (one_of HT_.out kr_) (by decide) (fun K hK => ?_)
 refine goes_ Tryz.func11 kr_ rfl #[.string a0_0] (by rfl) rfl rfl rl_ ?_
 with_reducible refine (tolllaw01_Few.calls a0_0 t110 _ A2.out).mono ?_
 rintro e w' ⟨rfl, ⟨nd, rfl⟩⟩
 refine ⟨_, rfl, ?_⟩
 refine hK.out _ _ ⟨(blk_cell BK108.out 0).trans rfl, (blk_cell BK108.out 1).trans rfl, (blk_cell BK108.out 2).trans rfl, (blk_cell BK108.out 3).trans rfl, (blk_cell BK108.out 4).trans rfl⟩ (fun hHeld => ?_)
 clear hK K
 refine norm_ (a' := ?_) ?_ ?_
 rotate_left
 ·show Act.put _ (some 5) _ = _
  simp only [Act.put, sx_, s0_, s1_, i64_w, i32_w]
  rfl
 refine one_ (i := 5) (N := some 8) #[true, true, true, true, true, true, true, true, false, true, true, false, true, true, false, false, false] rfl rfl (one_of HT_.out kr_) (by decide) (fun K hK => ?_)
 refine goes_ Tryz.func11 kr_ rfl #[.string a0_1] (by rfl) rfl rfl rl_ ?_
 with_reducible refine (tolllaw01_Few.calls a0_1 t111 _ A3.out).mono ?_
 rintro e w' ⟨rfl, ⟨nd, rfl⟩⟩
 refine ⟨_, rfl, ?_⟩
 refine hK.out _ _ ⟨(blk_cell BK108.out 0).trans rfl, (blk_cell BK108.out 1).trans rfl, (blk_cell BK108.out 2).trans rfl, (blk_cell BK108.out 3).trans rfl, (blk_cell BK108.out 4).trans rfl⟩ (fun hHeld => ?_)
 clear hK K
 refine norm_ (a' := ?_) ?_ ?_
 rotate_left
 ·show Act.put _ (some 8) _ = _
  simp only [Act.put, sx_, s0_, s1_, i64_w, i32_w]
  rfl
 refine one_ (i := 8) (N := some 11) #[true, true, true, true, true, true, true, true, true, true, true, false, true, true, false, false, false] rfl rfl (one_of HT_.out kr_) (by decide) (fun K hK => ?_)
 refine goes_ Tryz.func11 kr_ rfl #[.string a0_2] (by rfl) rfl rfl rl_ ?_
 with_reducible refine (tolllaw01_Few.calls a0_2 t112 _ A4.out).mono ?_
 rintro e w' ⟨rfl, ⟨nd, rfl⟩⟩
 refine ⟨_, rfl, ?_⟩
 refine hK.out _ _ ⟨(blk_cell BK108.out 0).trans rfl, (blk_cell BK108.out 1).trans rfl, (blk_cell BK108.out 2).trans rfl, (blk_cell BK108.out 3).trans rfl, (blk_cell BK108.out 4).trans rfl⟩ (fun hHeld => ?_)
 clear hK K
 refine norm_ (a' := ?_) ?_ ?_
 rotate_left
 ·show Act.put _ (some 11) _ = _
  simp only [Act.put, sx_, s0_, s1_, i64_w, i32_w]
  rfl
 refine one_ (i := 11) (N := some 14) #[true, true, true, true, true, true, true, true, true, true, true, true, true, true, false, false, false] rfl rfl (one_of HT_.out kr_) (by decide) (fun K hK => ?_)
 refine goes_ Tryz.func12 kr_ rfl #[.slice A0_3 l0_3.length c0_3] (by rfl) rfl rfl rl_ ?_
 with_reducible refine (tolllaw05_Few.calls k _ _ l0_3 t113 _ ?side1 ?side2 A5.out).mono ?_
 (case side1 => exact C_ (Kd.C_below HR0_3.out (bel_ HB.out)))
 (case side2 => exact HC0_3.out)
 rintro e w10 ⟨v114, rfl, ho0, hb⟩
 refine ⟨_, rfl, ?_⟩
 have n0_ := am_ (Kd.R_lower ho0 (below_size (bel_ HB.out)))
 have n1_ := am_ (blk_below (g := gb108) (o := .cells #[.string a0_0, .string a0_1, .string a0_2, .slice A0_3 l0_3.length c0_3, .slice A0_4 l0_4.length c0_4] 24 (0, 0)) (blk_ BK108.out) hb)
 have n2_ := am_ (blk_below (g := gb109) (o := .cells #[.string (⟨#[]⟩ : ByteArray), .string (⟨#[]⟩ : ByteArray), .string (⟨#[]⟩ : ByteArray), .slice none 0 0, .slice none 0 0] 24 (0, 0)) (blk_ BK109.out) hb)
 have n3_ := am_ (below_step (bel_ HB.out) hb)
 clear BK108 BK109 HB
 have HO115 := n0_
 have BK108 := n1_
 have BK109 := n2_
 have HB := n3_
 clear n0_ n1_ n2_ n3_
 (try clear hb)
 (try clear hb2)
 (try clear hk)
 (try clear hi)
 (try clear ho0)
 refine hK.out _ _ ⟨(blk_cell BK108.out 0).trans rfl, (blk_cell BK108.out 1).trans rfl, (blk_cell BK108.out 2).trans rfl, (blk_cell BK108.out 3).trans rfl, (blk_cell BK108.out 4).trans rfl⟩ (fun hHeld => ?_)
 clear hK K
 refine norm_ (a' := ?_) ?_ ?_
 rotate_left
 ·show Act.put _ (some 14) _ = _
  simp only [Act.put, sx_, s0_, s1_, i64_w, i32_w]
  rfl
 refine one_ (i := 14) (N := some 17) #[true, true, true, true, true, true, true, true, true, true, true, true, true, true, true, false, false] rfl rfl (one_of HT_.out kr_) (by decide) (fun K hK => ?_)
 refine goes_ Tryz.func12 kr_ rfl #[.slice A0_4 l0_4.length c0_4] (by rfl) rfl rfl rl_ ?_
 with_reducible refine (tolllaw05_Few.calls k _ _ l0_4 t116 _ ?side1 ?side2 A6.out).mono ?_
 (case side1 => exact C_ (Kd.C_below HR0_4.out HB.out))
 (case side2 => exact HC0_4.out)
 rintro e w11 ⟨v117, rfl, ho0, hb⟩
 refine ⟨_, rfl, ?_⟩
 have n0_ := am_ (Kd.R_elder' (R_ HO115.out) (Kd.R_base ho0) hb)
 have n1_ := am_ (Kd.R_lower (Kd.R_new' ho0 (Kd.R_lt (R_ HO115.out))) (below_size (bel_ HB.out)))
 have n2_ := am_ (blk_below (g := gb108) (o := .cells #[.string a0_0, .string a0_1, .string a0_2, .slice A0_3 l0_3.length c0_3, .slice A0_4 l0_4.length c0_4] 24 (0, 0)) (blk_ BK108.out) hb)
 have n3_ := am_ (blk_below (g := gb109) (o := .cells #[.string (⟨#[]⟩ : ByteArray), .string (⟨#[]⟩ : ByteArray), .string (⟨#[]⟩ : ByteArray), .slice none 0 0, .slice none 0 0] 24 (0, 0)) (blk_ BK109.out) hb)
 have n4_ := am_ (below_step (bel_ HB.out) hb)
 clear HO115 BK108 BK109 HB
 have HO115 := n0_
 have HO118 := n1_
 have BK108 := n2_
 have BK109 := n3_
 have HB := n4_
 clear n0_ n1_ n2_ n3_ n4_
 (try clear hb)
 (try clear hb2)
 (try clear hk)
 (try clear hi)
 (try clear ho0)
 obtain ⟨Ao12, co12, eo12⟩ := Kd.R_slice HO118.out
 (first | subst eo12 | (injection eo12 with f1_ f2_ f3_; have f4_ := f1_.symm; have f5_ := f3_.symm; clear f1_ f2_ f3_; subst f4_; subst f5_))
 obtain ⟨Ao13, co13, eo13⟩ := Kd.R_slice HO115.out
 (first | subst eo13 | (injection eo13 with f1_ f2_ f3_; have f4_ := f1_.symm; have f5_ := f3_.symm; clear f1_ f2_ f3_; subst f4_; subst f5_))
 refine hK.out _ _ ⟨(blk_cell BK108.out 0).trans rfl, (blk_cell BK108.out 1).trans rfl, (blk_cell BK108.out 2).trans rfl, (blk_cell BK108.out 3).trans rfl, (blk_cell BK108.out 4).trans rfl⟩ (fun hHeld => ?_)
 clear hK K
 refine norm_ (a' := ?_) ?_ ?_
 rotate_left
 ·show Act.put _ (some 17) _ = _
  simp only [Act.put, sx_, s0_, s1_, i64_w, i32_w]
  rfl
 refine pure_ (i := 15) (N := some 18) (v := ?_) (a' := ?_) #[true, true, true, true, true, true, true, true, true, true, true, true, true, true, true, true, false] rfl rfl (any_of HT_.out kr_) (fun _ _ _ h => h) (Or.inl ⟨by rfl, ?_⟩) ?_ ?_
 rotate_left
 ·intro w'
  go_simp
  with_reducible rfl
 rotate_left
 ·simp only [Act.put, sx_, s0_, s1_, i64_w, i32_w]
  rfl
 refine one_ (i := 16) (N := none) #[true, true, true, true, true, true, true, true, true, true, true, true, true, true, true, true, true] rfl rfl (one_of HT_.out kr_) (by decide) (fun K hK => ?_)
 have hs14 : w11.cell? ⟨gb109, 0, none⟩ = some (.string (⟨#[]⟩ : ByteArray)) := (blk_cell BK109.out 0).trans rfl
 have hfs14 := blk_frozen BK109.out 0
 have hns14_0 := NB108_109.out
 have hms14_0 := NB109_108.out
 have hs15 : w11.cell? ⟨gb109, 1, none⟩ = some (.string (⟨#[]⟩ : ByteArray)) := (blk_cell BK109.out 1).trans rfl
 have hfs15 := blk_frozen BK109.out 1
 have hns15_0 := NB108_109.out
 have hms15_0 := NB109_108.out
 have hs16 : w11.cell? ⟨gb109, 2, none⟩ = some (.string (⟨#[]⟩ : ByteArray)) := (blk_cell BK109.out 2).trans rfl
 have hfs16 := blk_frozen BK109.out 2
 have hns16_0 := NB108_109.out
 have hms16_0 := NB109_108.out
 have hs17 : w11.cell? ⟨gb109, 3, none⟩ = some (.slice none 0 0) := (blk_cell BK109.out 3).trans rfl
 have hfs17 := blk_frozen BK109.out 3
 have hns17_0 := NB108_109.out
 have hms17_0 := NB109_108.out
 have hs18 : w11.cell? ⟨gb109, 4, none⟩ = some (.slice none 0 0) := (blk_cell BK109.out 4).trans rfl
 have hfs18 := blk_frozen BK109.out 4
 have hns18_0 := NB108_109.out
 have hms18_0 := NB109_108.out
 refine skip_ (w1 := ?_) (by rfl) rfl ?_ ?_
 rotate_left
 ·go_simp
  rfl
 refine hK.out _ _ ⟨((cell_far (p := ⟨gb109, _, none⟩) NB108_109.out _).trans (((cell_far (p := ⟨gb109, _, none⟩) NB108_109.out _).trans (((cell_far (p := ⟨gb109, _, none⟩) NB108_109.out _).trans (((cell_far (p := ⟨gb109, _, none⟩) NB108_109.out _).trans (((cell_far (p := ⟨gb109, _, none⟩) NB108_109.out _).trans (hHeld.1)))))))))), ((cell_far (p := ⟨gb109, _, none⟩) NB108_109.out _).trans (((cell_far (p := ⟨gb109, _, none⟩) NB108_109.out _).trans (((cell_far (p := ⟨gb109, _, none⟩) NB108_109.out _).trans (((cell_far (p := ⟨gb109, _, none⟩) NB108_109.out _).trans (((cell_far (p := ⟨gb109, _, none⟩) NB108_109.out _).trans (hHeld.2.1)))))))))), ((cell_far (p := ⟨gb109, _, none⟩) NB108_109.out _).trans (((cell_far (p := ⟨gb109, _, none⟩) NB108_109.out _).trans (((cell_far (p := ⟨gb109, _, none⟩) NB108_109.out _).trans (((cell_far (p := ⟨gb109, _, none⟩) NB108_109.out _).trans (((cell_far (p := ⟨gb109, _, none⟩) NB108_109.out _).trans (hHeld.2.2.1)))))))))), ((cell_far (p := ⟨gb109, _, none⟩) NB108_109.out _).trans (((cell_far (p := ⟨gb109, _, none⟩) NB108_109.out _).trans (((cell_far (p := ⟨gb109, _, none⟩) NB108_109.out _).trans (((cell_far (p := ⟨gb109, _, none⟩) NB108_109.out _).trans (((cell_far (p := ⟨gb109, _, none⟩) NB108_109.out _).trans (hHeld.2.2.2.1)))))))))), ((cell_far (p := ⟨gb109, _, none⟩) NB108_109.out _).trans (((cell_far (p := ⟨gb109, _, none⟩) NB108_109.out _).trans (((cell_far (p := ⟨gb109, _, none⟩) NB108_109.out _).trans (((cell_far (p := ⟨gb109, _, none⟩) NB108_109.out _).trans (((cell_far (p := ⟨gb109, _, none⟩) NB108_109.out _).trans (hHeld.2.2.2.2))))))))))⟩ (fun hHeld => ?_)
 clear hK K
 refine done_ (done_of HT_.out kr_) ?_
 try go_wp2
 refine bodyPost_ret (results_cell_row rfl _ _ gb109 24 #[.string t110, .string t111, .string t112, .slice Ao13 t113.length co13, .slice Ao12 t116.length co12] (0, 0) _ rfl (by (with_reducible repeat (first | refine blk_drewN ?_ _ | refine blk_drew ?_ | refine blk_alloc ?_ _)); refine blk_put (cs := #[.string t110, .string t111, .string t112, .slice Ao13 t113.length co13, .slice none 0 0]) ?_ 4 _ rfl; (with_reducible repeat (first | refine blk_drewN ?_ _ | refine blk_drew ?_ | refine blk_alloc ?_ _)); refine blk_put (cs := #[.string t110, .string t111, .string t112, .slice none 0 0, .slice none 0 0]) ?_ 3 _ rfl; (with_reducible repeat (first | refine blk_drewN ?_ _ | refine blk_drew ?_ | refine blk_alloc ?_ _)); refine blk_put (cs := #[.string t110, .string t111, .string (⟨#[]⟩ : ByteArray), .slice none 0 0, .slice none 0 0]) ?_ 2 _ rfl; (with_reducible repeat (first | refine blk_drewN ?_ _ | refine blk_drew ?_ | refine blk_alloc ?_ _)); refine blk_put (cs := #[.string t110, .string (⟨#[]⟩ : ByteArray), .string (⟨#[]⟩ : ByteArray), .slice none 0 0, .slice none 0 0]) ?_ 1 _ rfl; (with_reducible repeat (first | refine blk_drewN ?_ _ | refine blk_drew ?_ | refine blk_alloc ?_ _)); refine blk_put (cs := #[.string (⟨#[]⟩ : ByteArray), .string (⟨#[]⟩ : ByteArray), .string (⟨#[]⟩ : ByteArray), .slice none 0 0, .slice none 0 0]) ?_ 0 _ rfl; (with_reducible repeat (first | refine blk_drewN ?_ _ | refine blk_drew ?_ | refine blk_alloc ?_ _)); exact BK109.out) Tryz.underlying24 rfl kr_) rfl ?_
 exact ⟨_, _, by first | rfl | (simp [errW_none, errW_some] <;> rfl) | (simp [*, errW_none, errW_some] <;> rfl), by (with_reducible repeat (first | apply Kd.R_alloc | apply Kd.R_drewN | apply Kd.R_drew)); exact Kd.R_mono (Kd.R_far (p := ⟨gb109, 4, none⟩) (Kd.R_far (p := ⟨gb109, 3, none⟩) (Kd.R_far (p := ⟨gb109, 2, none⟩) (Kd.R_far (p := ⟨gb109, 1, none⟩) (Kd.R_far (p := ⟨gb109, 0, none⟩) (Kd.R_types HO115.out BK109.out (by decide)) (fun _ hk => hk.2) (.string t110)) (fun _ hk => hk.2) (.string t111)) (fun _ hk => hk.2) (.string t112)) (fun _ hk => hk.2) (.slice Ao13 t113.length co13)) (fun _ hk => hk.2) (.slice Ao12 t116.length co12)) (fun _ hk => hk.1.2), by (with_reducible repeat (first | apply Kd.R_alloc | apply Kd.R_drewN | apply Kd.R_drew)); exact Kd.R_mono (Kd.R_far (p := ⟨gb109, 4, none⟩) (Kd.R_far (p := ⟨gb109, 3, none⟩) (Kd.R_far (p := ⟨gb109, 2, none⟩) (Kd.R_far (p := ⟨gb109, 1, none⟩) (Kd.R_far (p := ⟨gb109, 0, none⟩) (Kd.R_types HO118.out BK109.out (by decide)) (fun _ hk => hk.2) (.string t110)) (fun _ hk => hk.2) (.string t111)) (fun _ hk => hk.2) (.string t112)) (fun _ hk => hk.2) (.slice Ao13 t113.length co13)) (fun _ hk => hk.2) (.slice Ao12 t116.length co12)) (fun _ hk => hk.1.2), bel_ HB.out⟩

/-! ### tolllaw18_Few: function 5 -/
def tolllaw18_Few.f (a0 : ByteArray) : Option (ByteArray) := if (a0.size : Int) > 1100 then (if 0 ≤ 1100 then (if 1100 ≤ (a0.size : Int) then (some (a0.extract 0 1100)) else (none)) else (none)) else (some a0)
set_option maxHeartbeats 8000000 in
set_option maxRecDepth 100000 in
theorem tolllaw18_Few.calls (a0 : ByteArray) (r : ByteArray) (w : World) (h : tolllaw18_Few.f a0 = some r) :
  Calls Tryz.prog 5 #[.string a0] w fun e w' => e = .returned (.string r) ∧ Drawn0 w w' := by
 have H : (if (a0.size : Int) > 1100 then (if 0 ≤ 1100 then (if 1100 ≤ (a0.size : Int) then (some (a0.extract 0 1100)) else (none)) else (none)) else (some a0)) = some r := h
 clear h
 by_cases c2 : (a0.size : Int) > 1100
 ·rw [if_pos c2] at H
  have c2b0 : decide (1100 < (a0.size : Int)) = true := decide_eq_true c2
  have c2b1 : decide (1100 < a0.size) = true := decide_eq_true (by omega)
  clear c2
  by_cases c3 : 0 ≤ 1100
  ·rw [if_pos c3] at H
   have c3b0 := eq_true c3
   have c3b1 : decide (0 ≤ 1100) = true := decide_eq_true c3
   clear c3
   by_cases c4 : 1100 ≤ (a0.size : Int)
   ·rw [if_pos c4] at H
    have c4b0 := eq_true c4
    have c4b1 : decide (1100 ≤ (a0.size : Int)) = true := decide_eq_true c4
    clear c4
    obtain rfl := Option.some.inj H
    go_enter Tryz.func5, Tryz.ntmps5
    go_wp2
    go_ret
    exact ⟨by first | rfl | (simp; done) | (simp [*]; done) | (simp [bne_nil_isEmpty, beq_nil_isEmpty]; done) | (simp [*, bne_nil_isEmpty, beq_nil_isEmpty]; done), by repeat (first | exact Drawn0.refl _ | apply Drawn0.step)⟩
   ·rw [if_neg c4] at H
    exact absurd H (by simp)
  ·rw [if_neg c3] at H
   exact absurd H (by simp)
 ·rw [if_neg c2] at H
  have c2b0 : decide (1100 < (a0.size : Int)) = false := decide_eq_false c2
  have c2b1 : decide (1100 < a0.size) = false := decide_eq_false (by omega)
  clear c2
  obtain rfl := Option.some.inj H
  go_enter Tryz.func5, Tryz.ntmps5
  go_wp2
  go_ret
  exact ⟨by first | rfl | (simp; done) | (simp [*]; done) | (simp [bne_nil_isEmpty, beq_nil_isEmpty]; done) | (simp [*, bne_nil_isEmpty, beq_nil_isEmpty]; done), by repeat (first | exact Drawn0.refl _ | apply Drawn0.step)⟩

/-! ### query_May: function 31 -/
def query_May.l0 : Nat → List (S51) → List (S51) → Int → Int → Option (Bool)
 | 0, _, _, _, _ => none
 | k + 1, x0, x5, x6, x7 => if x7 < x6 then (if 0 ≤ x7 then (if x7 < (x5.length : Int) then (if ((rd_T51 x5 x7).f0).toList = ([] : List UInt8) then (some false) else (if (((rd_T51 x5 x7).f0).size : Int) > 40 then (some false) else (if (((rd_T51 x5 x7).f1).size : Int) > 40 then (some false) else (query_May.l0 k x0 x5 x6 (wrap64 (x7 + 1)))))) else (none)) else (none)) else (some (decide ((x0.length : Int) ≤ 20)))
def query_May.f (k : Nat) (l0 : List (S51)) : Option (Bool) := query_May.l0 k l0 l0 (l0.length : Int) 0
theorem query_May.mono_l : ∀ k, (∀ y0 y1 y2 y3, LeO (query_May.l0 k y0 y1 y2 y3) (query_May.l0 (k + 1) y0 y1 y2 y3))
 | 0 => fun _ _ _ _ r h => by simp [query_May.l0] at h
 | k + 1 => by
  have ih0 := query_May.mono_l k
  ·intro y0 y1 y2 y3
   unfold query_May.l0
   repeat' first
   | (with_reducible exact ih0 _ _ _ _)
   | (with_reducible exact LeO.refl _)
   | (with_reducible exact LeO.none _)
   | (with_reducible refine LeO.ite ?_ ?_)
   | (with_reducible refine LeO.bind ?_ (fun _ => ?_))
   | exact ih0 _ _ _ _
   | exact LeO.none _
   | refine LeO.ite ?_ ?_
   | refine LeO.bind ?_ (fun _ => ?_)
theorem query_May.mono : ∀ a0 k, LeO (query_May.f k a0) (query_May.f (k + 1) a0) := by
 intro a0 k
 have ih0 := query_May.mono_l k
 unfold query_May.f
 repeat' first
   | (with_reducible exact ih0 _ _ _ _)
   | (with_reducible exact LeO.refl _)
   | (with_reducible exact LeO.none _)
   | (with_reducible refine LeO.ite ?_ ?_)
   | (with_reducible refine LeO.bind ?_ (fun _ => ?_))
   | exact ih0 _ _ _ _
   | exact LeO.none _
   | refine LeO.ite ?_ ?_
   | refine LeO.bind ?_ (fun _ => ?_)
set_option maxHeartbeats 8000000 in
set_option maxRecDepth 100000 in
theorem query_May.calls (k : Nat) (A0 : Option Addr) (c0 : Nat) (l0 : List (S51)) (r : Bool) (w : World) (hr0 : Kd.C k51 w A0 l0.length l0) (hc0 : l0.length ≤ c0) (h : query_May.f k l0 = some r) :
  Calls Tryz.prog 31 #[.slice A0 l0.length c0] w fun e w' => e = .returned (.bool r) ∧ Below w.heap.size w w' := by
 have hu51 := Tryz.underlying51
 have HR0 := Aside0.mk hr0
 have HC0 := Aside0.mk hc0
 clear hr0 hc0
 have HB := am_ (Below.refl w.heap.size w)
 have H : (query_May.l0 k l0 l0 (l0.length : Int) 0) = some r := h
 clear h
 have H' := Aside0.mk H
 clear H
 go_enter Tryz.func31, Tryz.ntmps31
 go_wp2
 go_loopg [7] k (fun kq v7 w' => ∃ (x7_1 : Int), v7 = .int .i64 x7_1 ∧ Aside0 (query_May.l0 kq l0 l0 (l0.length : Int) x7_1 = some r) ∧ Aside0 (kq ≤ k) ∧ Aside0 (Below w.heap.size w w'))
 case atStart => exact ⟨(0), sd_, H', ⟨Nat.le_refl _⟩, ⟨bel_ HB.out⟩⟩
 case round =>
  clear H'
  obtain ⟨x7_1, rfl, HA, HK1, HB⟩ := hrel
  cases gk with
  | zero => exact absurd HA.out (by simp [query_May.l0])
  | succ k1 =>
   have H := HA.out
   clear HA
   simp only [query_May.l0] at H
   by_cases c2 : x7_1 < (l0.length : Int)
   ·rw [if_pos c2] at H
    have c2b0 : decide (x7_1 < (l0.length : Int)) = true := decide_eq_true c2
    clear c2
    by_cases c3 : 0 ≤ x7_1
    ·rw [if_pos c3] at H
     have c3b0 : decide (0 ≤ x7_1) = true := decide_eq_true c3
     clear c3
     by_cases c4 : x7_1 < (l0.length : Int)
     ·rw [if_pos c4] at H
      have c4b0 : decide (x7_1 < (l0.length : Int)) = true := decide_eq_true c4
      clear c4
      by_cases c5 : ((rd_T51 l0 x7_1).f0).toList = ([] : List UInt8)
      ·rw [if_pos c5] at H
       have c5b0 : (((rd_T51 l0 x7_1).f0).toList == ([] : List UInt8)) = true := beq_iff_eq.mpr c5
       have c5b1 : (((rd_T51 l0 x7_1).f0).toList != ([] : List UInt8)) = false := bne_eq_false_iff_eq.mpr c5
       clear c5
       obtain rfl := Option.some.inj H
       have p119 : 0 ≤ (x7_1 : Int) := of_decide_eq_true as_
       have q119 : x7_1 < (l0.length : Int) := of_decide_eq_true as_
       obtain ⟨ad119, e119, hx119_0, hx119_1⟩ := at_T51 HR0.out x7_1 p119 q119
       cases e119
       replace hx119_0 := (HB.out.cell (World.block_lt_of_cell? w _ hx119_0)).trans hx119_0
       replace hx119_1 := (HB.out.cell (World.block_lt_of_cell? w _ hx119_1)).trans hx119_1
       replace p119 := eq_true p119
       replace q119 := eq_true q119
       go_wp2_with (first | ((with_reducible refine gate_dst (N := 4) rfl ?_); (try (refine gate_guard (by rfl) ?_; dsimp only)); refine box_event ?hg (N := 4) ?hd (cs := #[.string (⟨#[]⟩ : ByteArray), .string (⟨#[]⟩ : ByteArray)]) (t := 51) ?hr ?_; (case hd => rfl); (case hg => rfl); (case hr => first | (go_simp; done) | (go_simp; rfl)); intro gb120 hg w6 hbox hb; have n0_ := am_ (below_step (bel_ HB.out) hb); have n1_ := am_ (hbox); have n2_ := am_ ((by rw [hg]; exact (below_size (bel_ HB.out)) : w.heap.size ≤ gb120)); have n3_ := am_ ((by rw [hg]; exact (below_size (bel_ HB.out)) : w.heap.size ≤ gb120)); clear HB; have HB := n0_; have BK120 := n1_; have GW120 := n2_; have GE120 := n3_; clear n0_ n1_ n2_ n3_ hb hbox hg; obtain ⟨hcz7_0, hcz7_1, hfz7_0, hfz7_1⟩ := blk2 BK120.out))
       go_ret
       exact ⟨fi_, bel_ HB.out⟩
      ·rw [if_neg c5] at H
       have c5b0 : (((rd_T51 l0 x7_1).f0).toList == ([] : List UInt8)) = false := beq_eq_false_iff_ne.mpr c5
       have c5b1 : (((rd_T51 l0 x7_1).f0).toList != ([] : List UInt8)) = true := bne_iff_ne.mpr c5
       by_cases c8 : (((rd_T51 l0 x7_1).f0).size : Int) > 40
       ·rw [if_pos c8] at H
        have c8b0 : decide (40 < (((rd_T51 l0 x7_1).f0).size : Int)) = true := decide_eq_true c8
        have c8b1 : decide (40 < ((rd_T51 l0 x7_1).f0).size) = true := decide_eq_true (by omega)
        clear c8
        obtain rfl := Option.some.inj H
        have p119 : 0 ≤ (x7_1 : Int) := of_decide_eq_true as_
        have q119 : x7_1 < (l0.length : Int) := of_decide_eq_true as_
        obtain ⟨ad119, e119, hx119_0, hx119_1⟩ := at_T51 HR0.out x7_1 p119 q119
        cases e119
        replace hx119_0 := (HB.out.cell (World.block_lt_of_cell? w _ hx119_0)).trans hx119_0
        replace hx119_1 := (HB.out.cell (World.block_lt_of_cell? w _ hx119_1)).trans hx119_1
        replace p119 := eq_true p119
        replace q119 := eq_true q119
        go_wp2_with (first | ((with_reducible refine gate_dst (N := 4) rfl ?_); (try (refine gate_guard (by rfl) ?_; dsimp only)); refine box_event ?hg (N := 4) ?hd (cs := #[.string (⟨#[]⟩ : ByteArray), .string (⟨#[]⟩ : ByteArray)]) (t := 51) ?hr ?_; (case hd => rfl); (case hg => rfl); (case hr => first | (go_simp; done) | (go_simp; rfl)); intro gb120 hg w9 hbox hb; have n0_ := am_ (below_step (bel_ HB.out) hb); have n1_ := am_ (hbox); have n2_ := am_ ((by rw [hg]; exact (below_size (bel_ HB.out)) : w.heap.size ≤ gb120)); have n3_ := am_ ((by rw [hg]; exact (below_size (bel_ HB.out)) : w.heap.size ≤ gb120)); clear HB; have HB := n0_; have BK120 := n1_; have GW120 := n2_; have GE120 := n3_; clear n0_ n1_ n2_ n3_ hb hbox hg; obtain ⟨hcz10_0, hcz10_1, hfz10_0, hfz10_1⟩ := blk2 BK120.out))
        go_ret
        exact ⟨fi_, bel_ HB.out⟩
       ·rw [if_neg c8] at H
        have c8b0 : decide (40 < (((rd_T51 l0 x7_1).f0).size : Int)) = false := decide_eq_false c8
        have c8b1 : decide (40 < ((rd_T51 l0 x7_1).f0).size) = false := decide_eq_false (by omega)
        clear c8
        by_cases c11 : (((rd_T51 l0 x7_1).f1).size : Int) > 40
        ·rw [if_pos c11] at H
         have c11b0 : decide (40 < (((rd_T51 l0 x7_1).f1).size : Int)) = true := decide_eq_true c11
         have c11b1 : decide (40 < ((rd_T51 l0 x7_1).f1).size) = true := decide_eq_true (by omega)
         clear c11
         obtain rfl := Option.some.inj H
         have p119 : 0 ≤ (x7_1 : Int) := of_decide_eq_true as_
         have q119 : x7_1 < (l0.length : Int) := of_decide_eq_true as_
         obtain ⟨ad119, e119, hx119_0, hx119_1⟩ := at_T51 HR0.out x7_1 p119 q119
         cases e119
         replace hx119_0 := (HB.out.cell (World.block_lt_of_cell? w _ hx119_0)).trans hx119_0
         replace hx119_1 := (HB.out.cell (World.block_lt_of_cell? w _ hx119_1)).trans hx119_1
         replace p119 := eq_true p119
         replace q119 := eq_true q119
         go_wp2_with (first | ((with_reducible refine gate_dst (N := 4) rfl ?_); (try (refine gate_guard (by rfl) ?_; dsimp only)); refine box_event ?hg (N := 4) ?hd (cs := #[.string (⟨#[]⟩ : ByteArray), .string (⟨#[]⟩ : ByteArray)]) (t := 51) ?hr ?_; (case hd => rfl); (case hg => rfl); (case hr => first | (go_simp; done) | (go_simp; rfl)); intro gb120 hg w12 hbox hb; have n0_ := am_ (below_step (bel_ HB.out) hb); have n1_ := am_ (hbox); have n2_ := am_ ((by rw [hg]; exact (below_size (bel_ HB.out)) : w.heap.size ≤ gb120)); have n3_ := am_ ((by rw [hg]; exact (below_size (bel_ HB.out)) : w.heap.size ≤ gb120)); clear HB; have HB := n0_; have BK120 := n1_; have GW120 := n2_; have GE120 := n3_; clear n0_ n1_ n2_ n3_ hb hbox hg; obtain ⟨hcz13_0, hcz13_1, hfz13_0, hfz13_1⟩ := blk2 BK120.out))
         go_ret
         exact ⟨fi_, bel_ HB.out⟩
        ·rw [if_neg c11] at H
         have c11b0 : decide (40 < (((rd_T51 l0 x7_1).f1).size : Int)) = false := decide_eq_false c11
         have c11b1 : decide (40 < ((rd_T51 l0 x7_1).f1).size) = false := decide_eq_false (by omega)
         clear c11
         have H' := Aside0.mk H
         clear H
         have p119 : 0 ≤ (x7_1 : Int) := of_decide_eq_true as_
         have q119 : x7_1 < (l0.length : Int) := of_decide_eq_true as_
         obtain ⟨ad119, e119, hx119_0, hx119_1⟩ := at_T51 HR0.out x7_1 p119 q119
         cases e119
         replace hx119_0 := (HB.out.cell (World.block_lt_of_cell? w _ hx119_0)).trans hx119_0
         replace hx119_1 := (HB.out.cell (World.block_lt_of_cell? w _ hx119_1)).trans hx119_1
         replace p119 := eq_true p119
         replace q119 := eq_true q119
         go_wp2_with (first | ((with_reducible refine gate_dst (N := 4) rfl ?_); (try (refine gate_guard (by rfl) ?_; dsimp only)); refine box_event ?hg (N := 4) ?hd (cs := #[.string (⟨#[]⟩ : ByteArray), .string (⟨#[]⟩ : ByteArray)]) (t := 51) ?hr ?_; (case hd => rfl); (case hg => rfl); (case hr => first | (go_simp; done) | (go_simp; rfl)); intro gb120 hg w14 hbox hb; have n0_ := am_ (below_step (bel_ HB.out) hb); have n1_ := am_ (hbox); have n2_ := am_ ((by rw [hg]; exact (below_size (bel_ HB.out)) : w.heap.size ≤ gb120)); have n3_ := am_ ((by rw [hg]; exact (below_size (bel_ HB.out)) : w.heap.size ≤ gb120)); clear HB; have HB := n0_; have BK120 := n1_; have GW120 := n2_; have GE120 := n3_; clear n0_ n1_ n2_ n3_ hb hbox hg; obtain ⟨hcz15_0, hcz15_1, hfz15_0, hfz15_1⟩ := blk2 BK120.out))
         go_roundg k1
         case measure => have := HK1.out; omega
         case rel => exact ⟨(wrap64 (x7_1 + 1)), sd_, H', ⟨by have := HK1.out; omega⟩, ⟨bel_ HB.out⟩⟩
     ·rw [if_neg c4] at H
      exact absurd H (by simp)
    ·rw [if_neg c3] at H
     exact absurd H (by simp)
   ·rw [if_neg c2] at H
    have c2b0 : decide (x7_1 < (l0.length : Int)) = false := decide_eq_false c2
    clear c2
    obtain rfl := Option.some.inj H
    go_wp2
    go_ret
    exact ⟨fi_, bel_ HB.out⟩

/-! ### stringslite_IndexByte: function 61 -/
def stringslite_IndexByte.f (a0 : ByteArray) (a1 : Int) : Option (Int) := some (firstIdx a0 a1.toNat.toUInt8)
set_option maxHeartbeats 4000000 in
theorem stringslite_IndexByte.calls (a0 : ByteArray) (a1 : Int) (r : Int) (w : World) (h : stringslite_IndexByte.f a0 a1 = some r) :
  Calls Tryz.prog 61 #[.string a0, .int .u8 a1] w fun e w' => e = .returned (.int .i64 r) ∧ Drawn0 w w' := by
 obtain rfl := Option.some.inj h
 clear h
 have hov : ∀ W, (callFunc 84 #[.string a0, .int .u8 a1]).run Tryz.prog W = .ok (.value (.int .i64 (firstIdx a0 a1.toNat.toUInt8))) W := fun W => by
  rw [run_callFunc_extern Tryz.func84 kr_ kr_ kr_ (e := Extern.BytealgIndexByte.indexByte) kr_, run_indexByte_string]
  rfl
 go_enter Tryz.func61, Tryz.ntmps61
 go_wp2_with (simp only [hov])
 go_ret
 exact ⟨rfl, Drawn0.refl _⟩

/-! ### strings_IndexByte: function 40 -/
def strings_IndexByte.f (a0 : ByteArray) (a1 : Int) : Option (Int) := (stringslite_IndexByte.f a0 a1).bind fun t121 => (some t121)
set_option maxHeartbeats 8000000 in
set_option maxRecDepth 100000 in
theorem strings_IndexByte.calls (a0 : ByteArray) (a1 : Int) (r : Int) (w : World) (h : strings_IndexByte.f a0 a1 = some r) :
  Calls Tryz.prog 40 #[.string a0, .int .u8 a1] w fun e w' => e = .returned (.int .i64 r) ∧ Drawn0 w w' := by
 have H : ((stringslite_IndexByte.f a0 a1).bind fun t121 => (some t121)) = some r := h
 clear h
 replace H := Option.bind_eq_some_iff.mp H
 obtain ⟨t121, A30, H⟩ := H
 replace H : (some t121) = some r := H
 have A3 := Aside0.mk A30
 clear A30
 obtain rfl := Option.some.inj H
 go_enter Tryz.func40, Tryz.ntmps40
 go_wp2_with (first | ((with_reducible refine gate_callee (f := 61) rfl ?_); refine goesL_ (some 7) rfl rfl Tryz.func61 kr_ rfl #[.string a0, .int .u8 a1] rfl rl_ ?_; (with_reducible refine (stringslite_IndexByte.calls a0 a1 t121 _ A3.out).mono ?_); rintro e w' ⟨rfl, ⟨nd, rfl⟩⟩; refine ⟨_, rfl, ?_⟩))
 go_ret
 exact ⟨by first | rfl | (simp; done) | (simp [*]; done) | (simp [bne_nil_isEmpty, beq_nil_isEmpty]; done) | (simp [*, bne_nil_isEmpty, beq_nil_isEmpty]; done), by repeat (first | exact Drawn0.refl _ | apply Drawn0.step)⟩

/-! ### query_Plain: function 49 -/
mutual
def query_Plain.j0 : Nat → Int → Bool → Option (Bool)
 | 0, _, _ => none
 | k + 1, x0, x3 => if x3 = true then (some true) else (if x0 ≥ 65 then (query_Plain.j1 k x0 (decide (x0 ≤ 90))) else (query_Plain.j1 k x0 false))
def query_Plain.j1 : Nat → Int → Bool → Option (Bool)
 | 0, _, _ => none
 | k + 1, x0, x3 => if x3 = true then (some true) else (if x0 ≥ 48 then (if x0 ≤ 57 then (some true) else ((strings_IndexByte.f (⟨#[45, 46, 95, 126]⟩ : ByteArray) x0).bind fun t122 => (some (decide (t122 ≥ 0))))) else ((strings_IndexByte.f (⟨#[45, 46, 95, 126]⟩ : ByteArray) x0).bind fun t123 => (some (decide (t123 ≥ 0)))))
end
def query_Plain.f (k : Nat) (a0 : Int) : Option (Bool) := if a0 ≥ 97 then (query_Plain.j0 k a0 (decide (a0 ≤ 122))) else (query_Plain.j0 k a0 false)
theorem query_Plain.mono_l : ∀ k, (∀ y0 y1, LeO (query_Plain.j0 k y0 y1) (query_Plain.j0 (k + 1) y0 y1)) ∧ (∀ y0 y1, LeO (query_Plain.j1 k y0 y1) (query_Plain.j1 (k + 1) y0 y1))
 | 0 => ⟨fun _ _ r h => by simp [query_Plain.j0] at h, fun _ _ r h => by simp [query_Plain.j1] at h⟩
 | k + 1 => by
  obtain ⟨ih0, ih1⟩ := query_Plain.mono_l k
  refine ⟨?_, ?_⟩
  ·intro y0 y1
   unfold query_Plain.j0
   repeat' first
   | (with_reducible exact ih0 _ _)
   | (with_reducible exact ih1 _ _)
   | (with_reducible exact LeO.refl _)
   | (with_reducible exact LeO.none _)
   | (with_reducible refine LeO.ite ?_ ?_)
   | (with_reducible refine LeO.bind ?_ (fun _ => ?_))
   | exact ih0 _ _
   | exact ih1 _ _
   | exact LeO.none _
   | refine LeO.ite ?_ ?_
   | refine LeO.bind ?_ (fun _ => ?_)
  ·intro y0 y1
   unfold query_Plain.j1
   repeat' first
   | (with_reducible exact ih0 _ _)
   | (with_reducible exact ih1 _ _)
   | (with_reducible exact LeO.refl _)
   | (with_reducible exact LeO.none _)
   | (with_reducible refine LeO.ite ?_ ?_)
   | (with_reducible refine LeO.bind ?_ (fun _ => ?_))
   | exact ih0 _ _
   | exact ih1 _ _
   | exact LeO.none _
   | refine LeO.ite ?_ ?_
   | refine LeO.bind ?_ (fun _ => ?_)
theorem query_Plain.mono : ∀ a0 k, LeO (query_Plain.f k a0) (query_Plain.f (k + 1) a0) := by
 intro a0 k
 obtain ⟨ih0, ih1⟩ := query_Plain.mono_l k
 unfold query_Plain.f
 repeat' first
   | (with_reducible exact ih0 _ _)
   | (with_reducible exact ih1 _ _)
   | (with_reducible exact LeO.refl _)
   | (with_reducible exact LeO.none _)
   | (with_reducible refine LeO.ite ?_ ?_)
   | (with_reducible refine LeO.bind ?_ (fun _ => ?_))
   | exact ih0 _ _
   | exact ih1 _ _
   | exact LeO.none _
   | refine LeO.ite ?_ ?_
   | refine LeO.bind ?_ (fun _ => ?_)
set_option maxHeartbeats 8000000 in
set_option maxRecDepth 100000 in
theorem query_Plain.calls (k : Nat) (a0 : Int) (r : Bool) (w : World) (h : query_Plain.f k a0 = some r) :
  Calls Tryz.prog 49 #[.int .u8 a0] w fun e w' => e = .returned (.bool r) ∧ Drawn0 w w' := by
 have H : (if a0 ≥ 97 then (query_Plain.j0 k a0 (decide (a0 ≤ 122))) else (query_Plain.j0 k a0 false)) = some r := h
 clear h
 have HC2 := Aside0.mk H
 clear H
 go_enter Tryz.func49, Tryz.ntmps49
 go_upto_region 1 with (fail)
 go_cut [3] (fun v3 wc => ∃ (kq : Nat) (x3_1 : Bool), v3 = .bool x3_1 ∧ Aside0 (query_Plain.j0 kq a0 x3_1 = some r) ∧ Aside0 (kq ≤ k) ∧ Drawn0 w wc)
 case first =>
  have H := HC2.out
  clear HC2
  by_cases c3 : a0 ≥ 97
  ·rw [if_pos c3] at H
   have c3b0 : decide (97 ≤ a0) = true := decide_eq_true c3
   clear c3
   (first | rw [c3b0] | rw [c3b1] | rw [c3b2] | (simp only [i64_w, i32_w]; rw [c3b0]) | skip)
   have H' := Aside0.mk H
   clear H
   go_wp2
   go_meet
   case rel => exact ⟨_, (decide (a0 ≤ 122)), sd_, H', ⟨by first | omega | exact Nat.le_refl _⟩, by repeat (first | exact Drawn0.refl _ | apply Drawn0.step)⟩
  ·rw [if_neg c3] at H
   have c3b0 : decide (97 ≤ a0) = false := decide_eq_false c3
   clear c3
   (first | rw [c3b0] | rw [c3b1] | rw [c3b2] | (simp only [i64_w, i32_w]; rw [c3b0]) | skip)
   have H' := Aside0.mk H
   clear H
   go_wp2
   go_meet
   case rel => exact ⟨_, (false), sd_, H', ⟨by first | omega | exact Nat.le_refl _⟩, by repeat (first | exact Drawn0.refl _ | apply Drawn0.step)⟩
 case rest =>
  clear HC2
  try clear p2
  try clear c3
  try clear c3b0
  try clear c3b1
  try clear c3b2
  obtain ⟨kq, x3_1, rfl, HA, HJ1, ⟨mc1, rfl⟩⟩ := hcut
  cases kq with
  | zero => exact absurd HA.out (by simp [query_Plain.j0])
  | succ kj1 =>
   have H := HA.out
   clear HA
   simp only [query_Plain.j0] at H
   by_cases c4 : x3_1 = true
   ·subst c4
    have H1 : (some true) = some r := by rw [if_pos rfl] at H; exact H
    clear H
    have H := H1
    clear H1
    obtain rfl := Option.some.inj H
    go_wp2
    go_ret
    exact ⟨by first | rfl | (simp; done) | (simp [*]; done) | (simp [bne_nil_isEmpty, beq_nil_isEmpty]; done) | (simp [*, bne_nil_isEmpty, beq_nil_isEmpty]; done), by repeat (first | exact Drawn0.refl _ | apply Drawn0.step)⟩
   ·replace c4 := Bool.eq_false_iff.mpr c4
    subst c4
    have H1 : (if a0 ≥ 65 then (query_Plain.j1 kj1 a0 (decide (a0 ≤ 90))) else (query_Plain.j1 kj1 a0 false)) = some r := by rw [if_neg (show ¬ (false = true) by decide)] at H; exact H
    clear H
    have H := H1
    clear H1
    have HC5 := Aside0.mk H
    clear H
    go_upto_region 2 with (fail)
    go_cut [3] (fun v3 wc => ∃ (kq : Nat) (x3_4 : Bool), v3 = .bool x3_4 ∧ Aside0 (query_Plain.j1 kq a0 x3_4 = some r) ∧ Aside0 (kq ≤ kj1) ∧ Drawn0 w wc)
    case first =>
     have H := HC5.out
     clear HC5
     by_cases c6 : a0 ≥ 65
     ·rw [if_pos c6] at H
      have c6b0 : decide (65 ≤ a0) = true := decide_eq_true c6
      clear c6
      (first | rw [c6b0] | rw [c6b1] | rw [c6b2] | (simp only [i64_w, i32_w]; rw [c6b0]) | skip)
      have H' := Aside0.mk H
      clear H
      go_wp2
      go_meet
      case rel => exact ⟨_, (decide (a0 ≤ 90)), sd_, H', ⟨by have := HJ1.out; first | omega | exact Nat.le_refl _⟩, by repeat (first | exact Drawn0.refl _ | apply Drawn0.step)⟩
     ·rw [if_neg c6] at H
      have c6b0 : decide (65 ≤ a0) = false := decide_eq_false c6
      clear c6
      (first | rw [c6b0] | rw [c6b1] | rw [c6b2] | (simp only [i64_w, i32_w]; rw [c6b0]) | skip)
      have H' := Aside0.mk H
      clear H
      go_wp2
      go_meet
      case rel => exact ⟨_, (false), sd_, H', ⟨by have := HJ1.out; first | omega | exact Nat.le_refl _⟩, by repeat (first | exact Drawn0.refl _ | apply Drawn0.step)⟩
    case rest =>
     clear HC5
     try clear c1
     try clear p2
     try clear c3
     try clear c3b0
     try clear c3b1
     try clear c3b2
     try clear c4
     try clear c6
     try clear c6b0
     try clear c6b1
     try clear c6b2
     try clear p2
     obtain ⟨kq, x3_4, rfl, HA, HJ4, ⟨mc4, rfl⟩⟩ := hcut
     cases kq with
     | zero => exact absurd HA.out (by simp [query_Plain.j1])
     | succ kj4 =>
      have H := HA.out
      clear HA
      simp only [query_Plain.j1] at H
      by_cases c7 : x3_4 = true
      ·subst c7
       have H1 : (some true) = some r := by rw [if_pos rfl] at H; exact H
       clear H
       have H := H1
       clear H1
       obtain rfl := Option.some.inj H
       go_wp2
       go_ret
       exact ⟨by first | rfl | (simp; done) | (simp [*]; done) | (simp [bne_nil_isEmpty, beq_nil_isEmpty]; done) | (simp [*, bne_nil_isEmpty, beq_nil_isEmpty]; done), by repeat (first | exact Drawn0.refl _ | apply Drawn0.step)⟩
      ·replace c7 := Bool.eq_false_iff.mpr c7
       subst c7
       have H1 : (if a0 ≥ 48 then (if a0 ≤ 57 then (some true) else ((strings_IndexByte.f (⟨#[45, 46, 95, 126]⟩ : ByteArray) a0).bind fun t122 => (some (decide (t122 ≥ 0))))) else ((strings_IndexByte.f (⟨#[45, 46, 95, 126]⟩ : ByteArray) a0).bind fun t123 => (some (decide (t123 ≥ 0))))) = some r := by rw [if_neg (show ¬ (false = true) by decide)] at H; exact H
       clear H
       have H := H1
       clear H1
       by_cases c8 : a0 ≥ 48
       ·rw [if_pos c8] at H
        have c8b0 : decide (48 ≤ a0) = true := decide_eq_true c8
        clear c8
        by_cases c9 : a0 ≤ 57
        ·rw [if_pos c9] at H
         have c9b0 : decide (a0 ≤ 57) = true := decide_eq_true c9
         clear c9
         obtain rfl := Option.some.inj H
         go_wp2
         go_ret
         exact ⟨by first | rfl | (simp; done) | (simp [*]; done) | (simp [bne_nil_isEmpty, beq_nil_isEmpty]; done) | (simp [*, bne_nil_isEmpty, beq_nil_isEmpty]; done), by repeat (first | exact Drawn0.refl _ | apply Drawn0.step)⟩
        ·rw [if_neg c9] at H
         have c9b0 : decide (a0 ≤ 57) = false := decide_eq_false c9
         clear c9
         replace H := Option.bind_eq_some_iff.mp H
         obtain ⟨t122, A100, H⟩ := H
         replace H : (some (decide (t122 ≥ 0))) = some r := H
         have A10 := Aside0.mk A100
         clear A100
         obtain rfl := Option.some.inj H
         go_wp2_with (first | ((with_reducible refine gate_callee (f := 40) rfl ?_); refine goesL_ (some 23) rfl rfl Tryz.func40 kr_ rfl #[.string (⟨#[45, 46, 95, 126]⟩ : ByteArray), .int .u8 a0] rfl rl_ ?_; (with_reducible refine (strings_IndexByte.calls (⟨#[45, 46, 95, 126]⟩ : ByteArray) a0 t122 _ A10.out).mono ?_); rintro e w' ⟨rfl, ⟨nd, rfl⟩⟩; refine ⟨_, rfl, ?_⟩))
         go_ret
         exact ⟨by first | rfl | (simp; done) | (simp [*]; done) | (simp [bne_nil_isEmpty, beq_nil_isEmpty]; done) | (simp [*, bne_nil_isEmpty, beq_nil_isEmpty]; done), by repeat (first | exact Drawn0.refl _ | apply Drawn0.step)⟩
       ·rw [if_neg c8] at H
        have c8b0 : decide (48 ≤ a0) = false := decide_eq_false c8
        clear c8
        replace H := Option.bind_eq_some_iff.mp H
        obtain ⟨t123, A110, H⟩ := H
        replace H : (some (decide (t123 ≥ 0))) = some r := H
        have A11 := Aside0.mk A110
        clear A110
        obtain rfl := Option.some.inj H
        go_wp2_with (first | ((with_reducible refine gate_callee (f := 40) rfl ?_); refine goesL_ (some 23) rfl rfl Tryz.func40 kr_ rfl #[.string (⟨#[45, 46, 95, 126]⟩ : ByteArray), .int .u8 a0] rfl rl_ ?_; (with_reducible refine (strings_IndexByte.calls (⟨#[45, 46, 95, 126]⟩ : ByteArray) a0 t123 _ A11.out).mono ?_); rintro e w' ⟨rfl, ⟨nd, rfl⟩⟩; refine ⟨_, rfl, ?_⟩))
        go_ret
        exact ⟨by first | rfl | (simp; done) | (simp [*]; done) | (simp [bne_nil_isEmpty, beq_nil_isEmpty]; done) | (simp [*, bne_nil_isEmpty, beq_nil_isEmpty]; done), by repeat (first | exact Drawn0.refl _ | apply Drawn0.step)⟩

/-! ### the shelf's Lays.n156 at this program -/
def laysB_ren : Go.Shelf.Ren := ⟨fun | 167 => 50 | 170 => 20 | 156 => 33 | 165 => 51 | 166 => 17 | 169 => 21 | 240 => 39 | 241 => 80 | 276 => 60 | 277 => 95 | n => n, fun | 31 => 59 | 9 => 9 | 3 => 3 | 4 => 4 | 0 => 0 | 20 => 20 | 72 => 45 | 76 => 48 | 70 => 42 | 37 => 43 | 75 => 47 | 127 => 68 | 164 => 80 | 5 => 5 | 80 => 53 | n => n, fun  | n => n⟩
theorem laysB : Lays.n156 Tryz.prog laysB_ren where
 mixed := by kernel_rfl
 f156 := Tryz.func33.trans (congrArg some kr_)
 f165 := Tryz.func51.trans (congrArg some kr_)
 f166 := Tryz.func17.trans (congrArg some kr_)
 f169 := Tryz.func21.trans (congrArg some kr_)
 f240 := Tryz.func39.trans (congrArg some kr_)
 f241 := Tryz.func80.trans (congrArg some kr_)
 f276 := Tryz.func60.trans (congrArg some kr_)
 f277 := Tryz.func95.trans (congrArg some kr_)
 t0 := Tryz.underlying0
 a0 := Tryz.isAgg0
 z0 := Tryz.sizeOf0
 v0 := Tryz.zeroValue0
 t3 := Tryz.underlying3
 a3 := Tryz.isAgg3
 z3 := Tryz.sizeOf3
 v3 := Tryz.zeroValue3
 t4 := Tryz.underlying4
 a4 := Tryz.isAgg4
 z4 := Tryz.sizeOf4
 v4 := Tryz.zeroValue4
 t9 := Tryz.underlying9
 a9 := Tryz.isAgg9
 z9 := Tryz.sizeOf9
 v9 := Tryz.zeroValue9
 t20 := Tryz.underlying20
 a20 := Tryz.isAgg20
 z20 := Tryz.sizeOf20
 v20 := Tryz.zeroValue20
 t31 := Tryz.underlying59
 a31 := Tryz.isAgg59
 z31 := Tryz.sizeOf59
 v31 := Tryz.zeroValue59
 t37 := Tryz.underlying43
 a37 := Tryz.isAgg43
 z37 := Tryz.sizeOf43
 v37 := Tryz.zeroValue43
 t70 := Tryz.underlying42
 a70 := Tryz.isAgg42
 z70 := Tryz.sizeOf42
 v70 := Tryz.zeroValue42
 t72 := Tryz.underlying45
 a72 := Tryz.isAgg45
 z72 := Tryz.sizeOf45
 v72 := Tryz.zeroValue45
 t75 := Tryz.underlying47
 a75 := Tryz.isAgg47
 z75 := Tryz.sizeOf47
 v75 := Tryz.zeroValue47
 t76 := Tryz.underlying48
 a76 := Tryz.isAgg48
 z76 := Tryz.sizeOf48
 v76 := Tryz.zeroValue48
 t127 := Tryz.underlying68
 a127 := Tryz.isAgg68
 z127 := Tryz.sizeOf68
 v127 := Tryz.zeroValue68
 t164 := Tryz.underlying80
 a164 := Tryz.isAgg80
 z164 := Tryz.sizeOf80
 v164 := Tryz.zeroValue80

/-! ### builder_own: a text under way, in a block that a call has made itself -/
theorem extraB : Builder.Extra Tryz.prog laysB_ren where
 sizeBuilder := by kernel_rfl
 liesBuilder := by kernel_rfl
 t5 := Tryz.underlying5
 a5 := Tryz.isAgg5
 z5 := Tryz.sizeOf5
 v5 := Tryz.zeroValue5
 infoByte := by kernel_rfl
 cellsByte := by kernel_rfl
 sizeByte := by kernel_rfl
 neB5 := by decide
theorem laysB166 : Lays.n166 Tryz.prog laysB_ren := { laysB with }
theorem laysB167 : Lays.n167 Tryz.prog laysB_ren := { laysB with f167 := Tryz.func50.trans (congrArg some kr_), t5 := Tryz.underlying5, a5 := Tryz.isAgg5, z5 := Tryz.sizeOf5, v5 := Tryz.zeroValue5 }
theorem laysB169 : Lays.n169 Tryz.prog laysB_ren := { laysB with }
theorem laysB170 : Lays.n170 Tryz.prog laysB_ren := { laysB with f170 := Tryz.func20.trans (congrArg some kr_) }
/-- The builder of block B, B the first of a call's own, holds these octets. -/
def Bld (B : Nat) (l : List UInt8) (w : World) : Prop := Lib.IsBuilder 45 5 B B (Lib.byteCells l) w
theorem bld_new (w : World) : Bld w.heap.size [] (w.alloc (.cells #[.pointer none, .slice none 0 0] 45)) := Lib.fresh_isBuilder 45 5 w
theorem bld_byte (B : Nat) (l : List UInt8) (c : UInt8) (w : World) (h : Bld B l w) (hlen : l.length + 1 ≤ 140737488355328) (hBw : B ≤ w.heap.size) :
  Calls Tryz.prog 50 #[.pointer (some ⟨B, 0, none⟩), .int .u8 c.toNat] w fun e w' => e = .returned .nilIface ∧ Bld B (l ++ [c]) w' ∧ Below B w w' := by
 refine (Any.Builder_WriteByte laysB167 extraB B B (Lib.byteCells l) c.toNat w h (by rw [Lib.byteCells_length]; exact hlen) hBw).mono ?_
 rintro e w' ⟨rfl, h1, h2⟩
 refine ⟨rfl, Or.inr ?_, h2⟩
 rw [Lib.byteCells_append]
 exact h1
theorem bld_text (B : Nat) (l : List UInt8) (s : ByteArray) (w : World) (h : Bld B l w) (hlen : l.length + s.size ≤ 140737488355328) (hBw : B ≤ w.heap.size) :
  Calls Tryz.prog 17 #[.pointer (some ⟨B, 0, none⟩), .string s] w fun e w' => e = .returned (.tuple #[.int .i64 s.size, .nilIface]) ∧ Bld B (l ++ s.data.toList) w' ∧ Below B w w' := by
 refine (Any.Builder_WriteString laysB166 extraB B B (Lib.byteCells l) s w h (by rw [Lib.byteCells_length]; exact hlen) hBw).mono ?_
 rintro e w' ⟨rfl, h1, h2⟩
 refine ⟨rfl, Or.inr ?_, h2⟩
 rw [Lib.byteCells_append, ← Lib.strCells_eq]
 exact h1
theorem bld_len (B : Nat) (l : List UInt8) (w : World) (h : Bld B l w) :
  Calls Tryz.prog 20 #[.pointer (some ⟨B, 0, none⟩)] w fun e w' => e = .returned (.int .i64 l.length) ∧ w' = w := by
 refine (Any.Builder_Len laysB170 B B (Lib.byteCells l) w h).mono ?_
 rintro e w' ⟨rfl, rfl⟩
 rw [Lib.byteCells_length]
 exact ⟨rfl, rfl⟩
theorem bld_done (B : Nat) (l : List UInt8) (w : World) (h : Bld B l w) (hBw : B ≤ w.heap.size) :
  Calls Tryz.prog 21 #[.pointer (some ⟨B, 0, none⟩)] w fun e w' => e = .returned (.string ⟨l.toArray⟩) ∧ Below B w w' :=
 Any.Builder_String_any laysB169 extraB B B l w h hBw
theorem bld_below {B : Nat} {l : List UInt8} {w w' : World} (h : Bld B l w) (hb : Below w.heap.size w w') : Bld B l w' := by
 have f : ∀ p, Lib.BuilderAt 45 5 B B p (Lib.byteCells l) w → Lib.BuilderAt 45 5 B B p (Lib.byteCells l) w' := by
  rintro p ⟨h1, v, h2, h3, h4⟩
  exact ⟨h1, v, (hb.block _ (blk_lt h2)).trans h2, h3.kept (row := none) ⟨hb.os, hb.tape, hb.output, hb.size, fun k hk _ => hb.block k hk⟩ (Classical.em _), h4⟩
 exact h.elim (fun x => .inl (f _ x)) (fun x => .inr (f _ x))

/-! ### query_written: function 32 -/
def query_written.x (n : Nat) : UInt8 := UInt8.ofNat (if n < 10 then 48 + n else 55 + n)
def query_written.o (k : Nat) (c : UInt8) : Option (List UInt8) := (query_Plain.f k c.toNat).bind fun b => if b = true then some [c] else if c.toNat = 32 then some [43] else some [37, query_written.x (c.toNat / 16), query_written.x (c.toNat % 16)]
def query_written.g (k : Nat) : List UInt8 → Option (List UInt8)
 | [] => some []
 | c :: r => (query_written.o k c).bind fun x => (query_written.g k r).bind fun y => some (x ++ y)
def query_written.f (k : Nat) (a0 : ByteArray) : Option (ByteArray) := if a0.size ≤ 40000000000000 then (query_written.g k a0.data.toList).bind fun l => some ⟨l.toArray⟩ else none
theorem query_written.o_mono : ∀ c k, LeO (query_written.o k c) (query_written.o (k + 1) c) := by
 intro c k
 unfold query_written.o
 refine LeO.bind (query_Plain.mono _ _) (fun _ => ?_)
 exact LeO.refl _
theorem query_written.g_mono : ∀ l k, LeO (query_written.g k l) (query_written.g (k + 1) l) := by
 intro l k
 induction l with
 | nil => exact LeO.refl _
 | cons c r ih =>
  unfold query_written.g
  exact LeO.bind (query_written.o_mono c k) (fun _ => LeO.bind ih (fun _ => LeO.refl _))
theorem query_written.mono : ∀ a0 k, LeO (query_written.f k a0) (query_written.f (k + 1) a0) := by
 intro a0 k
 unfold query_written.f
 refine LeO.ite (LeO.bind (query_written.g_mono _ _) (fun _ => LeO.refl _)) (LeO.refl _)
theorem query_written.g_snoc (k : Nat) : ∀ (l : List UInt8) (c : UInt8) (x y : List UInt8), query_written.g k l = some x → query_written.o k c = some y → query_written.g k (l ++ [c]) = some (x ++ y) := by
 intro l
 induction l with
 | nil => intro c x y h1 h2; rw [query_written.g] at h1; obtain rfl := Option.some.inj h1; simp [query_written.g, h2]
 | cons a r ih =>
  intro c x y h1 h2
  rw [query_written.g] at h1
  obtain ⟨u, e1, h1⟩ := Option.bind_eq_some_iff.1 h1
  obtain ⟨v, e2, h1⟩ := Option.bind_eq_some_iff.1 h1
  obtain rfl := Option.some.inj h1
  rw [List.cons_append, query_written.g, e1, Option.bind_some, ih c v y e2 h2, Option.bind_some, List.append_assoc]
theorem query_written.g_get (k : Nat) : ∀ (l : List UInt8) (x : List UInt8), query_written.g k l = some x → ∀ (j : Nat) c, l[j]? = some c → ∃ y, query_written.o k c = some y := by
 intro l
 induction l with
 | nil => intro x _ j c h; simp at h
 | cons a r ih =>
  intro x h1 j c hj
  rw [query_written.g] at h1
  obtain ⟨u, e1, h1⟩ := Option.bind_eq_some_iff.1 h1
  obtain ⟨v, e2, h1⟩ := Option.bind_eq_some_iff.1 h1
  cases j with
  | zero => rw [List.getElem?_cons_zero] at hj; obtain rfl := Option.some.inj hj; exact ⟨u, e1⟩
  | succ j => rw [List.getElem?_cons_succ] at hj; exact ih v e2 j c hj
theorem query_written.o_len (k : Nat) (c : UInt8) (y : List UInt8) (h : query_written.o k c = some y) : y.length ≤ 3 := by
 unfold query_written.o at h
 obtain ⟨b, _, h⟩ := Option.bind_eq_some_iff.1 h
 split at h
 ·obtain rfl := Option.some.inj h; simp
 ·split at h
  ·obtain rfl := Option.some.inj h; simp
  ·obtain rfl := Option.some.inj h; simp
noncomputable def query_written.T6 : Bool × List (List Nat × List Nat) := (true, [([], []), ([0], [0]), ([], []), ([2], [2]), ([3], [3]), ([1, 4], [1, 4]), ([5], [5]), ([], []), ([7], [7]), ([], []), ([9], [9]), ([10], [10]), ([8, 11], [8, 11]), ([6, 12], [6, 12]), ([13], [13])])
noncomputable def query_written.B6 : List Nat := [0, 1, 0, 4, 12, 31, 63, 0, 128, 0, 512, 1536, 3968, 8191, 16383]
theorem query_written.tab6 : rtab .any (opsOf Tryz.f32 6) = query_written.T6 := by kernel_rfl
theorem query_written.bits6 : waitsOk query_written.T6.2 query_written.B6 = true := by kernel_rfl
set_option maxRecDepth 100000 in
theorem query_written.cut (n : Nat) (h : n < 16) (w : World) : (Instr.slice 9 (Value.string { data := #[48, 49, 50, 51, 52, 53, 54, 55, 56, 57, 65, 66, 67, 68, 69, 70] }) (some (Value.int IntKind.u8 (n : Int))) (some (Value.int IntKind.u8 (IntKind.u8.wrap ((n : Int) + 1)))) none).run Tryz.prog w = .ok (.string ⟨#[query_written.x n]⟩) w := by
 match n, h, w with
 | 0, _, _ => rfl
 | 1, _, _ => rfl
 | 2, _, _ => rfl
 | 3, _, _ => rfl
 | 4, _, _ => rfl
 | 5, _, _ => rfl
 | 6, _, _ => rfl
 | 7, _, _ => rfl
 | 8, _, _ => rfl
 | 9, _, _ => rfl
 | 10, _, _ => rfl
 | 11, _, _ => rfl
 | 12, _, _ => rfl
 | 13, _, _ => rfl
 | 14, _, _ => rfl
 | 15, _, _ => rfl
 | n + 16, h, _ => exact absurd h (by omega)
theorem query_written.low (c : UInt8) : Go.bits .and .u8 (c.toNat : Int) 15 = ((c.toNat % 16 : Nat) : Int) := by
 have h : ∀ n : Fin 256, Go.bits .and .u8 (n.val : Int) 15 = ((n.val % 16 : Nat) : Int) := by decide +kernel
 exact h ⟨c.toNat, c.toNat_lt⟩
set_option maxHeartbeats 8000000 in
set_option maxRecDepth 100000 in
theorem query_written.calls (k : Nat) (a0 : ByteArray) (r : ByteArray) (w : World) (h : query_written.f k a0 = some r) :
  Calls Tryz.prog 32 #[.string a0] w fun e w' => e = .returned (.string r) ∧ Below w.heap.size w w' := by
 have hmx : a0.size ≤ 40000000000000 := by
  by_cases hx : a0.size ≤ 40000000000000
  ·exact hx
  ·rw [query_written.f, if_neg hx] at h; cases h
 rw [query_written.f, if_pos hmx] at h
 obtain ⟨L, hL, h⟩ := Option.bind_eq_some_iff.1 h
 obtain rfl := Option.some.inj h
 clear h
 have HL := Aside0.mk hL
 clear hL
 have hsz : a0.data.toList.length = a0.size := data_length a0
 have HSZ := Aside0.mk hsz
 clear hsz
 have HB0 := am_ (bld_new w)
 have HW0 := am_ ((Below.refl w.heap.size w).alloc (Nat.le_refl _) (.cells #[.pointer none, .slice none 0 0] 45))
 go_enter Tryz.func32, Tryz.ntmps32
 go_wp2
 go_loopw [8] (fun i wr => ∃ (j : Nat) (l : List UInt8), j ≤ a0.size ∧ i = .int .i64 j ∧ Aside0 (query_written.g k (a0.data.toList.take j) = some l) ∧ Aside0 (l.length ≤ 3 * j) ∧ Aside0 (Bld w.heap.size l wr) ∧ Aside0 (Below w.heap.size w wr)) (fun i _ => a0.size - (intOf i).toNat)
 case atStart => exact ⟨0, [], Nat.zero_le _, rfl, ⟨by rw [List.take_zero]; rfl⟩, ⟨Nat.zero_le _⟩, HB0, HW0⟩
 case round =>
  clear HB0 HW0
  obtain ⟨j, l, hj, rfl, HG, HN, HB, HW⟩ := hrel
  by_cases hlt : j < a0.size
  ·have p1 : (0 ≤ (j : Int)) = True := eq_true (by omega)
   have q1 : ((j : Int) < (a0.size : Int)) = True := eq_true (by omega)
   obtain ⟨y, hy⟩ := query_written.g_get k _ L HL.out j (a0[j]'hlt) (by rw [Array.getElem?_toList]; exact Array.getElem?_eq_getElem hlt)
   have hnx : query_written.g k (a0.data.toList.take (j + 1)) = some (l ++ y) := by
    rw [List.take_add_one, show a0.data.toList[j]? = some (a0[j]'hlt) from by rw [Array.getElem?_toList]; exact Array.getElem?_eq_getElem hlt]
    exact query_written.g_snoc k _ _ l y HG.out hy
   have hyl := query_written.o_len k _ y hy
   have hNN := HN.out
   have HNX := Aside0.mk hnx
   clear hnx
   unfold query_written.o at hy
   obtain ⟨b, hb, hy⟩ := Option.bind_eq_some_iff.1 hy
   have HY := Aside0.mk hy
   clear hy
   have hws := HW.out.size
   go_wp2_with fail
   generalize (a0[j]'hlt) = c at *
   refine (query_Plain.calls k _ b wr hb).mono ?_
   rintro e w1 ⟨rfl, nd, rfl⟩
   have HB1 := am_ (show Bld w.heap.size l (wr.drewN nd) from HB.out)
   have HW1 := am_ (show Below w.heap.size w (wr.drewN nd) from HW.out.trans ⟨rfl, rfl, rfl, Nat.le_refl _, fun _ _ => rfl⟩)
   have hws1 : w.heap.size ≤ (wr.drewN nd).heap.size := hws
   generalize wr.drewN nd = w2 at HB1 HW1 hws1 ⊢
   cases b with
   | true =>
    obtain rfl := Option.some.inj (HY.out.symm.trans (if_pos rfl))
    go_wp2_with fail
    refine (bld_byte _ l c w2 HB1.out (by omega) hws1).mono ?_
    rintro e w3 ⟨rfl, h1, h2⟩
    have H1 := Aside0.mk h1
    have H2 := am_ (HW1.out.trans h2)
    clear h1 h2
    go_wp2
    exact ⟨⟨j + 1, l ++ [c], by omega, by go_num, HNX, ⟨by simp; omega⟩, H1, H2⟩, by simp [intOf]; omega⟩
   | false =>
    by_cases h32 : c.toNat = 32
    ·have e32 : ((c.toNat : Int) == 32) = true := by rw [h32]; rfl
     obtain rfl := Option.some.inj (HY.out.symm.trans ((if_neg (by decide)).trans (if_pos h32)))
     go_wp2_with fail
     refine (bld_byte _ l 43 w2 HB1.out (by omega) hws1).mono ?_
     rintro e w3 ⟨rfl, h1, h2⟩
     have H1 := Aside0.mk h1
     have H2 := am_ (HW1.out.trans h2)
     clear h1 h2
     go_wp2
     exact ⟨⟨j + 1, l ++ [43], by omega, by go_num, HNX, ⟨by simp; omega⟩, H1, H2⟩, by simp [intOf]; omega⟩
    ·have e32 : ((c.toNat : Int) == 32) = false := beq_eq_false_iff_ne.2 (by omega)
     obtain rfl := Option.some.inj (HY.out.symm.trans ((if_neg (by decide)).trans (if_neg h32)))
     go_wp2_with fail
     have HB2 := am_ (show Bld w.heap.size l w2.drew from HB1.out)
     have HW2 := am_ (below_drew1 HW1.out)
     have hws2 : w.heap.size ≤ w2.drew.heap.size := hws1
     clear HB1 HW1 hws1 HB HW hws
     refine start_ (n := 15) (S := fun w' => True) (ds := []) #[false, false, false, false, false, false, false, false, false, false, false, false, false, false, false] kr_ rfl rfl trivial (fun hHeld => ?_); refine with_tabW query_written.tab6 query_written.bits6 (fun HT_ HW_ => ?_)
     generalize w2.drew = w4 at HB2 HW2 hws2 hHeld ⊢
     have S1 : ∀ w' : World, (Instr.slice 9 (Value.string { data := #[48, 49, 50, 51, 52, 53, 54, 55, 56, 57, 65, 66, 67, 68, 69, 70] }) (some (Value.int IntKind.u8 ((c.toNat : Int) / 16))) (some (Value.int IntKind.u8 (IntKind.u8.wrap ((c.toNat : Int) / 16 + 1)))) none).run Tryz.prog w' = .ok (.string ⟨#[query_written.x (c.toNat / 16)]⟩) w' := fun w' => query_written.cut (c.toNat / 16) (by have := c.toNat_lt; omega) w'
     have S2 : ∀ w' : World, (Instr.slice 9 (Value.string { data := #[48, 49, 50, 51, 52, 53, 54, 55, 56, 57, 65, 66, 67, 68, 69, 70] }) (some (Value.int IntKind.u8 (bits BinOp.and IntKind.u8 (c.toNat : Int) 15))) (some (Value.int IntKind.u8 (IntKind.u8.wrap (bits BinOp.and IntKind.u8 (c.toNat : Int) 15 + 1)))) none).run Tryz.prog w' = .ok (.string ⟨#[query_written.x (c.toNat % 16)]⟩) w' := fun w' => by rw [query_written.low]; exact query_written.cut (c.toNat % 16) (by omega) w'
     refine pure_ (i := 0) (N := some 14) (v := ?_) (a' := ?_) #[true, false, false, false, false, false, false, false, false, false, false, false, false, false, false] rfl rfl (any_of HT_.out kr_) (fun _ _ _ h => h) (Or.inl ⟨by rfl, ?_⟩) ?_ ?_
     rotate_left
     ·intro w'
      go_simp
      with_reducible rfl
     rotate_left
     ·simp only [Act.put, sx_, s0_, s1_, i64_w, i32_w]
      rfl
     refine pure_ (i := 1) (N := some 15) (v := ?_) (a' := ?_) #[true, true, false, false, false, false, false, false, false, false, false, false, false, false, false] rfl rfl (any_of HT_.out kr_) (fun _ _ _ h => h) (Or.inl ⟨by rfl, ?_⟩) ?_ ?_
     rotate_left
     ·intro w'
      go_simp
      with_reducible rfl
     rotate_left
     ·simp only [Act.put, sx_, s0_, s1_, i64_w, i32_w]
      rfl
     refine pure_ (i := 2) (N := some 16) (v := ?_) (a' := ?_) #[true, true, true, false, false, false, false, false, false, false, false, false, false, false, false] rfl rfl (any_of HT_.out kr_) (fun _ _ _ h => h) (Or.inl ⟨by rfl, ?_⟩) ?_ ?_
     rotate_left
     ·intro w'
      go_simp
      with_reducible rfl
     rotate_left
     ·simp only [Act.put, sx_, s0_, s1_, i64_w, i32_w]
      rfl
     refine pure_ (i := 3) (N := some 17) (v := ?_) (a' := ?_) #[true, true, true, true, false, false, false, false, false, false, false, false, false, false, false] rfl rfl (any_of HT_.out kr_) (fun _ _ _ h => h) (Or.inl ⟨by rfl, ?_⟩) ?_ ?_
     rotate_left
     ·intro w'
      go_simp
      with_reducible rfl
     rotate_left
     ·simp only [Act.put, sx_, s0_, s1_, i64_w, i32_w]
      rfl
     refine pure_ (i := 4) (N := some 18) (v := ?_) (a' := ?_) #[true, true, true, true, true, false, false, false, false, false, false, false, false, false, false] rfl rfl (any_of HT_.out kr_) (fun _ _ _ h => h) (Or.inl ⟨by rfl, ?_⟩) ?_ ?_
     rotate_left
     ·intro w'
      go_simp
      with_reducible rfl
     rotate_left
     ·simp only [Act.put, sx_, s0_, s1_, i64_w, i32_w]
      rfl
     refine pure_ (i := 5) (N := some 19) (v := ?_) (a' := ?_) #[true, true, true, true, true, true, false, false, false, false, false, false, false, false, false] rfl rfl (any_of HT_.out kr_) (fun _ _ _ h => h) (Or.inl ⟨by rfl, ?_⟩) ?_ ?_
     rotate_left
     ·intro w'
      go_simp
      with_reducible rfl
     rotate_left
     ·simp only [Act.put, sx_, s0_, s1_, i64_w, i32_w]
      rfl
     refine pure_ (i := 6) (N := some 20) (v := ?_) (a' := ?_) #[true, true, true, true, true, true, true, false, false, false, false, false, false, false, false] rfl rfl (any_of HT_.out kr_) (fun _ _ _ h => h) (Or.inl ⟨by rfl, ?_⟩) ?_ ?_
     rotate_left
     ·intro w'
      go_simp
      with_reducible rfl
     rotate_left
     ·simp only [Act.put, sx_, s0_, s1_, i64_w, i32_w]
      rfl
     refine pure_ (i := 7) (N := some 21) (v := ?_) (a' := ?_) #[true, true, true, true, true, true, true, true, false, false, false, false, false, false, false] rfl rfl (any_of HT_.out kr_) (fun _ _ _ h => h) (Or.inl ⟨by rfl, ?_⟩) ?_ ?_
     rotate_left
     ·intro w'
      go_simp
      with_reducible rfl
     rotate_left
     ·simp only [Act.put, sx_, s0_, s1_, i64_w, i32_w]
      rfl
     refine pure_ (i := 8) (N := some 22) (v := ?_) (a' := ?_) #[true, true, true, true, true, true, true, true, true, false, false, false, false, false, false] rfl rfl (any_of HT_.out kr_) (fun _ _ _ h => h) (Or.inl ⟨by rfl, ?_⟩) ?_ ?_
     rotate_left
     ·intro w'
      go_simp
      with_reducible rfl
     rotate_left
     ·simp only [Act.put, sx_, s0_, s1_, i64_w, i32_w]
      rfl
     refine pure_ (i := 9) (N := some 23) (v := ?_) (a' := ?_) #[true, true, true, true, true, true, true, true, true, true, false, false, false, false, false] rfl rfl (any_of HT_.out kr_) (fun _ _ _ h => h) (Or.inl ⟨by rfl, ?_⟩) ?_ ?_
     rotate_left
     ·intro w'
      go_simp
      with_reducible rfl
     rotate_left
     ·simp only [Act.put, sx_, s0_, s1_, i64_w, i32_w]
      rfl
     refine pure_ (i := 10) (N := some 24) (v := ?_) (a' := ?_) #[true, true, true, true, true, true, true, true, true, true, true, false, false, false, false] rfl rfl (any_of HT_.out kr_) (fun _ _ _ h => h) (Or.inl ⟨by rfl, ?_⟩) ?_ ?_
     rotate_left
     ·intro w'
      go_simp
      with_reducible rfl
     rotate_left
     ·simp only [Act.put, sx_, s0_, s1_, i64_w, i32_w]
      rfl
     refine pure_ (i := 11) (N := some 25) (v := ?_) (a' := ?_) #[true, true, true, true, true, true, true, true, true, true, true, true, false, false, false] rfl rfl (any_of HT_.out kr_) (fun _ _ _ h => h) (Or.inl ⟨by rfl, ?_⟩) ?_ ?_
     rotate_left
     ·intro w'
      go_simp
      with_reducible rfl
     rotate_left
     ·simp only [Act.put, sx_, s0_, s1_, i64_w, i32_w]
      rfl
     refine pure_ (i := 12) (N := some 26) (v := ?_) (a' := ?_) #[true, true, true, true, true, true, true, true, true, true, true, true, true, false, false] rfl rfl (any_of HT_.out kr_) (fun _ _ _ h => h) (Or.inl ⟨by rfl, ?_⟩) ?_ ?_
     rotate_left
     ·intro w'
      go_simp
      with_reducible rfl
     rotate_left
     ·simp only [Act.put, sx_, s0_, s1_, i64_w, i32_w]
      rfl
     refine pure_ (i := 13) (N := some 27) (v := ?_) (a' := ?_) #[true, true, true, true, true, true, true, true, true, true, true, true, true, true, false] rfl rfl (any_of HT_.out kr_) (fun _ _ _ h => h) (Or.inl ⟨by rfl, ?_⟩) ?_ ?_
     rotate_left
     ·intro w'
      go_simp
      with_reducible rfl
     rotate_left
     ·simp only [Act.put, sx_, s0_, s1_, i64_w, i32_w]
      rfl
     generalize hS : ((⟨#[37]⟩ : ByteArray) ++ ⟨#[query_written.x (c.toNat / 16)]⟩ ++ ⟨#[query_written.x (c.toNat % 16)]⟩) = S3
     have hS3 : S3.data.toList = [37, query_written.x (c.toNat / 16), query_written.x (c.toNat % 16)] := by rw [← hS]; rfl
     have hZ3 : S3.size = 3 := by rw [← hS]; rfl
     clear hS
     refine one_ (i := 14) (N := some 28) #[true, true, true, true, true, true, true, true, true, true, true, true, true, true, true] rfl rfl (one_of HT_.out kr_) (by decide) (fun K hK => ?_)
     refine goes_ Tryz.func17 kr_ rfl #[.pointer (some ⟨w.heap.size, 0, none⟩), .string S3] (by rfl) rfl rfl (by (try simp only [List.map_toArray, List.map_cons, List.map_nil]); first | done | rfl) ?_
     refine (bld_text _ l S3 w4 HB2.out (by omega) hws2).mono ?_
     rintro e w5 ⟨rfl, h1, h2⟩
     rw [hS3] at h1
     have H1 := Aside0.mk h1
     have H2 := am_ (HW2.out.trans h2)
     clear h1 h2
     refine ⟨_, rfl, ?_⟩
     refine hK.out _ _ trivial ?_
     clear hK K
     intro _
     refine norm_ (a' := ?_) ?_ ?_
     rotate_left
     ·show Act.put _ (some 28) _ = _
      simp only [Act.put, sx_, s0_, s1_, i64_w, i32_w]
      rfl
     refine done_ (done_of HT_.out kr_) ?_
     try go_wp2
     exact ⟨⟨j + 1, l ++ [37, query_written.x (c.toNat / 16), query_written.x (c.toNat % 16)], by omega, by go_num, HNX, ⟨by simp; omega⟩, H1, H2⟩, by simp [intOf]; omega⟩
  ·have hje : j = a0.size := by omega
   subst hje
   go_wp2_with fail
   have hl : l = L := by
    have h1 := HG.out
    rw [← HSZ.out, List.take_length, HL.out] at h1
    exact (Option.some.inj h1).symm
   subst hl
   refine (bld_done _ l wr HB.out HW.out.size).mono ?_
   rintro e w5 ⟨rfl, h2⟩
   have H2 := am_ (HW.out.trans h2)
   clear h2
   go_wp2
   go_ret
   exact ⟨rfl, H2.out⟩

/-! ### strings_Join: function 33 -/
def strings_Join.f (a0 : List ByteArray) (a1 : ByteArray) : Option (ByteArray) := if (Lib.join (a0.map (·.data.toList)) a1.data.toList).length ≤ 140737488355328 ∧ a0.length ≤ 140737488355328 then some ⟨(Lib.join (a0.map (·.data.toList)) a1.data.toList).toArray⟩ else none
theorem strings_Join.calls (A0 : Option Addr) (c0 : Nat) (l0 : List ByteArray) (a1 : ByteArray) (r : ByteArray) (w : World) (hr0 : Kd.C Kd.string w A0 l0.length l0) (hc0 : l0.length ≤ c0) (h : strings_Join.f l0 a1 = some r) :
  Calls Tryz.prog 33 #[.slice A0 l0.length c0, .string a1] w fun e w' => e = .returned (.string r) ∧ Below w.heap.size w w' := by
 unfold strings_Join.f at h
 split at h
 ·next hb =>
  obtain rfl := Option.some.inj h
  by_cases h0 : l0 = []
  ·subst h0
   refine (Any.strings_Join_none laysB extraB A0 c0 a1 w).mono ?_
   rintro e w' ⟨rfl, rfl⟩
   exact ⟨rfl, Below.refl _ _⟩
  ·have hn : 0 < l0.length := List.length_pos_iff.2 h0
   obtain ⟨ad, rfl, _⟩ := hr0.2.2 hn
   have hcell : ∀ (j : Nat) x, l0[j]? = some x → w.cell? (ad.add j) = some (.string x) := by
    intro j x hj
    obtain ⟨hj1, hj2⟩ := List.getElem?_eq_some_iff.1 hj
    obtain ⟨ad', e, hx⟩ := Kd.at_string hr0 (j : Int) (by omega) (by omega)
    obtain rfl := Option.some.inj e
    rw [Int.toNat_natCast] at hx
    rw [hx]
    simp only [rdOf, Int.toNat_natCast, List.getD_eq_getElem?_getD, hj, Option.getD_some]
   obtain ⟨b, o, s⟩ := ad
   have hc0' := hcell 0 (l0[0]'hn) (List.getElem?_eq_getElem hn)
   have hs : s = none := by
    cases s with
    | none => rfl
    | some v =>
     rw [Addr.add, if_pos rfl, World.cell?] at hc0'
     split at hc0' <;> simp at hc0'
   subst hs
   refine (Any.strings_Join laysB extraB b o c0 l0 a1 w (fun j x hj => ?_) (World.block_lt_of_cell? w _ hc0') hb.2 hc0 hb.1)
   have hx := hcell j x hj
   unfold Addr.add at hx
   split at hx
   ·next hz => rw [hz]; exact hx
   ·exact hx
 ·cases h

end Go.Proofs.YtpmllmfamjpinaaGreatDoor.P
