-- written by wip/tool/hprint.py of this repo: the kit's print, with contracts by hand joined; Lean checks it.
import Derived.Test.YtglghmcdcdljoaaPx0
import Derived.Test.YtglghmcdcdljoaaPx1
namespace Go.Proofs.Ytglghmcdcdljoaa.P
open Go.RowKit Go.Proofs.YtglghmcdcdljoaaW.PrintWords Go.Proofs.YtglghmcdcdljoaaW.PrintLast Go.Proofs.YtglghmcdcdljoaaW.PrintMore
attribute [local go_sem] max2_int min2_int max_two min_two max_three min_three max_four min_four   -- for this text's walks alone
set_option linter.unusedVariables false
set_option linter.unusedSimpArgs false

attribute [local go_sem high] eqA24
/-! ### tolllaw01_Few: function 11 -/
def tolllaw01_Few.f (a0 : ByteArray) : Option (ByteArray) := if (a0.size : Int) > 100 then (if 0 ≤ 100 then (if 100 ≤ (a0.size : Int) then (some (a0.extract 0 100)) else (none)) else (none)) else (some a0)
set_option maxHeartbeats 8000000 in
set_option maxRecDepth 100000 in
theorem tolllaw01_Few.calls (a0 : ByteArray) (r : ByteArray) (w : World) (h : tolllaw01_Few.f a0 = some r) :
  Calls Try.prog 11 #[.string a0] w fun e w' => e = .returned (.string r) ∧ Drawn0 w w' := by
 have H : (if (a0.size : Int) > 100 then (if 0 ≤ 100 then (if 100 ≤ (a0.size : Int) then (some (a0.extract 0 100)) else (none)) else (none)) else (some a0)) = some r := h
 clear h
 by_cases c2 : (a0.size : Int) > 100
 ·rw [if_pos c2] at H
  have c2b0 : decide (100 < (a0.size : Int)) = true := decide_eq_true c2
  have c2b1 : decide (100 < a0.size) = true := decide_eq_true (by omega)
  clear c2
  by_cases c3 : 0 ≤ 100
  ·rw [if_pos c3] at H
   have c3b0 := eq_true c3
   have c3b1 : decide (0 ≤ 100) = true := decide_eq_true c3
   clear c3
   by_cases c4 : 100 ≤ (a0.size : Int)
   ·rw [if_pos c4] at H
    have c4b0 := eq_true c4
    have c4b1 : decide (100 ≤ (a0.size : Int)) = true := decide_eq_true c4
    clear c4
    obtain rfl := Option.some.inj H
    go_enter Try.func11, Try.ntmps11
    go_wp2
    go_ret
    exact ⟨by first | rfl | (simp; done) | (simp [*]; done) | (simp [bne_nil_isEmpty, beq_nil_isEmpty]; done) | (simp [*, bne_nil_isEmpty, beq_nil_isEmpty]; done), by repeat (first | exact Drawn0.refl _ | apply Drawn0.step)⟩
   ·rw [if_neg c4] at H
    exact absurd H (by simp)
  ·rw [if_neg c3] at H
   exact absurd H (by simp)
 ·rw [if_neg c2] at H
  have c2b0 : decide (100 < (a0.size : Int)) = false := decide_eq_false c2
  have c2b1 : decide (100 < a0.size) = false := decide_eq_false (by omega)
  clear c2
  obtain rfl := Option.some.inj H
  go_enter Try.func11, Try.ntmps11
  go_wp2
  go_ret
  exact ⟨by first | rfl | (simp; done) | (simp [*]; done) | (simp [bne_nil_isEmpty, beq_nil_isEmpty]; done) | (simp [*, bne_nil_isEmpty, beq_nil_isEmpty]; done), by repeat (first | exact Drawn0.refl _ | apply Drawn0.step)⟩

/-! ### tolllaw05_Few: function 4 -/
mutual
def tolllaw05_Few.l0 : Nat → List (S24) → List (S24) → Int → Option ((List (S24)))
 | 0, _, _, _ => none
 | k + 1, x0, x3, x4 => if x4 < (x0.length : Int) then (tolllaw05_Few.j1 k x0 x3 x4 (decide (x4 < 31))) else (tolllaw05_Few.j1 k x0 x3 x4 false)
def tolllaw05_Few.j1 : Nat → List (S24) → List (S24) → Int → Bool → Option ((List (S24)))
 | 0, _, _, _, _ => none
 | k + 1, x0, x3, x4, x12 => if x12 = true then (if 0 ≤ x4 then (if x4 < (x0.length : Int) then ((tolllaw01_Few.f ((rd_T24 x0 x4).f0)).bind fun t102 => ((tolllaw01_Few.f ((rd_T24 x0 x4).f1)).bind fun t104 => (if x3.length < 4398046511104 then (tolllaw05_Few.l0 k x0 (x3 ++ [(⟨t102, t104⟩ : S24)]) (wrap64 (x4 + 1))) else (none)))) else (none)) else (none)) else (some x3)
end
def tolllaw05_Few.f (k : Nat) (l0 : List (S24)) : Option ((List (S24))) := tolllaw05_Few.l0 k l0 ([] : List (S24)) 0
theorem tolllaw05_Few.mono_l : ∀ k, (∀ y0 y1 y2, LeO (tolllaw05_Few.l0 k y0 y1 y2) (tolllaw05_Few.l0 (k + 1) y0 y1 y2)) ∧ (∀ y0 y1 y2 y3, LeO (tolllaw05_Few.j1 k y0 y1 y2 y3) (tolllaw05_Few.j1 (k + 1) y0 y1 y2 y3))
 | 0 => ⟨fun _ _ _ r h => by simp [tolllaw05_Few.l0] at h, fun _ _ _ _ r h => by simp [tolllaw05_Few.j1] at h⟩
 | k + 1 => by
  obtain ⟨ih0, ih1⟩ := tolllaw05_Few.mono_l k
  refine ⟨?_, ?_⟩
  ·intro y0 y1 y2
   unfold tolllaw05_Few.l0
   repeat' first
   | (with_reducible exact ih0 _ _ _)
   | (with_reducible exact ih1 _ _ _ _)
   | (with_reducible exact LeO.refl _)
   | (with_reducible exact LeO.none _)
   | (with_reducible refine LeO.ite ?_ ?_)
   | (with_reducible refine LeO.bind ?_ (fun _ => ?_))
   | exact ih0 _ _ _
   | exact ih1 _ _ _ _
   | exact LeO.none _
   | refine LeO.ite ?_ ?_
   | refine LeO.bind ?_ (fun _ => ?_)
  ·intro y0 y1 y2 y3
   unfold tolllaw05_Few.j1
   repeat' first
   | (with_reducible exact ih0 _ _ _)
   | (with_reducible exact ih1 _ _ _ _)
   | (with_reducible exact LeO.refl _)
   | (with_reducible exact LeO.none _)
   | (with_reducible refine LeO.ite ?_ ?_)
   | (with_reducible refine LeO.bind ?_ (fun _ => ?_))
   | exact ih0 _ _ _
   | exact ih1 _ _ _ _
   | exact LeO.none _
   | refine LeO.ite ?_ ?_
   | refine LeO.bind ?_ (fun _ => ?_)
theorem tolllaw05_Few.mono : ∀ a0 k, LeO (tolllaw05_Few.f k a0) (tolllaw05_Few.f (k + 1) a0) := by
 intro a0 k
 obtain ⟨ih0, ih1⟩ := tolllaw05_Few.mono_l k
 unfold tolllaw05_Few.f
 repeat' first
   | (with_reducible exact ih0 _ _ _)
   | (with_reducible exact ih1 _ _ _ _)
   | (with_reducible exact LeO.refl _)
   | (with_reducible exact LeO.none _)
   | (with_reducible refine LeO.ite ?_ ?_)
   | (with_reducible refine LeO.bind ?_ (fun _ => ?_))
   | exact ih0 _ _ _
   | exact ih1 _ _ _ _
   | exact LeO.none _
   | refine LeO.ite ?_ ?_
   | refine LeO.bind ?_ (fun _ => ?_)
def tolllaw05_Few.T5 : Bool × List (List Nat × List Nat) := (true, [([], []), ([], []), ([], []), ([1, 2], [1, 2]), ([3], [3]), ([4], [4]), ([5], [5]), ([], []), ([], []), ([7, 8], [7, 8]), ([9], [9]), ([10], [10]), ([11, 6], [11]), ([6, 12], [6, 12]), ([13], [13]), ([0, 14, 12], [0, 14]), ([15, 15, 0, 1, 2, 3, 4, 5, 6, 7, 8, 9, 10, 11, 12, 13, 14, 15], [0, 15])])
def tolllaw05_Few.B5 : List Nat := [0, 0, 0, 6, 14, 30, 62, 0, 0, 384, 896, 1920, 4094, 8190, 16382, 32767, 65535]
theorem tolllaw05_Few.tab5 : rtab .any (opsOf Try.f4 5) = tolllaw05_Few.T5 := by kernel_rfl
theorem tolllaw05_Few.bits5 : waitsOk tolllaw05_Few.T5.2 tolllaw05_Few.B5 = true := by kernel_rfl
set_option maxHeartbeats 8000000 in
set_option maxRecDepth 100000 in
theorem tolllaw05_Few.calls (k : Nat) (A0 : Option Addr) (c0 : Nat) (l0 : List (S24)) (r : List (S24)) (w : World) (hr0 : Kd.C k24 w A0 l0.length l0) (hc0 : l0.length ≤ c0) (h : tolllaw05_Few.f k l0 = some r) :
  Calls Try.prog 4 #[.slice A0 l0.length c0] w fun e w' => ∃ v0_ : Value, e = .returned (v0_) ∧ Kd.R k24 24 w' w.heap.size (fun _ => True) v0_ r ∧ Below w.heap.size w w' := by
 have hu24 := Try.underlying24
 have HR0 := Aside0.mk hr0
 have HC0 := Aside0.mk hc0
 clear hr0 hc0
 have HB := am_ (Below.refl w.heap.size w)
 have H : (tolllaw05_Few.l0 k l0 ([] : List (S24)) 0) = some r := h
 clear h
 have H' := Aside0.mk H
 clear H
 go_enter Try.func4, Try.ntmps4
 go_wp2
 go_loopg [3, 4] k (fun kq v3 v4 w' => ∃ (x3_1 : List (S24)) (x4_1 : Int), v4 = .int .i64 x4_1 ∧ Aside0 (tolllaw05_Few.l0 kq l0 x3_1 x4_1 = some r) ∧ Aside0 (kq ≤ k) ∧ Aside0 (Kd.R k24 24 w' w.heap.size (fun _ => True) v3 x3_1) ∧ Aside0 (Below w.heap.size w w'))
 case atStart => exact ⟨(([] : List (S24))), (0), sd_, H', ⟨Nat.le_refl _⟩, ⟨by first | exact Kd.R_nil _ _ _ _ _ | exact Kd.N_nil _ _ _ _ _ | exact Kd.V_nil _ _ _ _ _ | exact Kd.Q_nil _ _ _ _ _ | exact Kd.S_nil _ _ _ _ _⟩, ⟨bel_ HB.out⟩⟩
 case round =>
  clear H'
  obtain ⟨x3_1, x4_1, rfl, HA, HK1, HO_3, HB⟩ := hrel
  cases gk with
  | zero => exact absurd HA.out (by simp [tolllaw05_Few.l0])
  | succ k1 =>
   have H := HA.out
   clear HA
   simp only [tolllaw05_Few.l0] at H
   have HC2 := Aside0.mk H
   clear H
   go_upto_region 3 with (fail)
   go_cut [12] (fun v12 wc => ∃ (kq : Nat) (x12_1 : Bool), v12 = .bool x12_1 ∧ Aside0 (tolllaw05_Few.j1 kq l0 x3_1 x4_1 x12_1 = some r) ∧ Aside0 (kq ≤ k1) ∧ Aside0 (Kd.R k24 24 wc w.heap.size (fun _ => True) u3 x3_1) ∧ Aside0 (Below w.heap.size w wc))
   case first =>
    have H := HC2.out
    clear HC2
    by_cases c3 : x4_1 < (l0.length : Int)
    ·rw [if_pos c3] at H
     have c3b0 : decide (x4_1 < (l0.length : Int)) = true := decide_eq_true c3
     clear c3
     (first | rw [c3b0] | rw [c3b1] | rw [c3b2] | (simp only [i64_w, i32_w]; rw [c3b0]) | skip)
     have H' := Aside0.mk H
     clear H
     go_wp2
     go_meet
     case rel => exact ⟨_, (decide (x4_1 < 31)), sd_, H', ⟨by have := HK1.out; first | omega | exact Nat.le_refl _⟩, ⟨by (with_reducible repeat (first | apply Kd.R_alloc | apply Kd.R_drewN | apply Kd.R_drew)); exact HO_3.out⟩, ⟨bel_ HB.out⟩⟩
    ·rw [if_neg c3] at H
     have c3b0 : decide (x4_1 < (l0.length : Int)) = false := decide_eq_false c3
     clear c3
     (first | rw [c3b0] | rw [c3b1] | rw [c3b2] | (simp only [i64_w, i32_w]; rw [c3b0]) | skip)
     have H' := Aside0.mk H
     clear H
     go_wp2
     go_meet
     case rel => exact ⟨_, (false), sd_, H', ⟨by have := HK1.out; first | omega | exact Nat.le_refl _⟩, ⟨by (with_reducible repeat (first | apply Kd.R_alloc | apply Kd.R_drewN | apply Kd.R_drew)); exact HO_3.out⟩, ⟨bel_ HB.out⟩⟩
   case rest =>
    clear HC2
    try clear p2
    try clear c3
    try clear c3b0
    try clear c3b1
    try clear c3b2
    obtain ⟨kq, x12_1, rfl, HA, HJ1, HO_3, HB⟩ := hcut
    cases kq with
    | zero => exact absurd HA.out (by simp [tolllaw05_Few.j1])
    | succ kj1 =>
     have H := HA.out
     clear HA
     simp only [tolllaw05_Few.j1] at H
     by_cases c4 : x12_1 = true
     ·subst c4
      have H1 : (if 0 ≤ x4_1 then (if x4_1 < (l0.length : Int) then ((tolllaw01_Few.f ((rd_T24 l0 x4_1).f0)).bind fun t102 => ((tolllaw01_Few.f ((rd_T24 l0 x4_1).f1)).bind fun t104 => (if x3_1.length < 4398046511104 then (tolllaw05_Few.l0 kj1 l0 (x3_1 ++ [(⟨t102, t104⟩ : S24)]) (wrap64 (x4_1 + 1))) else (none)))) else (none)) else (none)) = some r := by rw [if_pos rfl] at H; exact H
      clear H
      have H := H1
      clear H1
      by_cases c5 : 0 ≤ x4_1
      ·rw [if_pos c5] at H
       have c5b0 : decide (0 ≤ x4_1) = true := decide_eq_true c5
       clear c5
       by_cases c6 : x4_1 < (l0.length : Int)
       ·rw [if_pos c6] at H
        have c6b0 : decide (x4_1 < (l0.length : Int)) = true := decide_eq_true c6
        clear c6
        replace H := Option.bind_eq_some_iff.mp H
        obtain ⟨t102, A70, H⟩ := H
        replace H : ((tolllaw01_Few.f ((rd_T24 l0 x4_1).f1)).bind fun t104 => (if x3_1.length < 4398046511104 then (tolllaw05_Few.l0 kj1 l0 (x3_1 ++ [(⟨t102, t104⟩ : S24)]) (wrap64 (x4_1 + 1))) else (none))) = some r := H
        have A7 := Aside0.mk A70
        clear A70
        replace H := Option.bind_eq_some_iff.mp H
        obtain ⟨t104, A80, H⟩ := H
        replace H : (if x3_1.length < 4398046511104 then (tolllaw05_Few.l0 kj1 l0 (x3_1 ++ [(⟨t102, t104⟩ : S24)]) (wrap64 (x4_1 + 1))) else (none)) = some r := H
        have A8 := Aside0.mk A80
        clear A80
        by_cases c9 : x3_1.length < 4398046511104
        ·rw [if_pos c9] at H
         have LMc9 := Aside0.mk c9
         clear c9
         obtain ⟨y105, hy105⟩ : ∃ y_ : List (S24), y_ = (x3_1 ++ [(⟨t102, t104⟩ : S24)]) := ⟨_, rfl⟩
         replace H : (tolllaw05_Few.l0 kj1 l0 y105 (wrap64 (x4_1 + 1))) = some r := by first | (rw [hy105]; with_reducible exact H) | (have H2_ := (Option.bind_some _ _).symm.trans H; rw [hy105]; with_reducible exact H2_) | (have H2_ := (Option.bind_some _ _).symm.trans H; with_reducible exact H2_) | with_reducible exact H | (rw [hy105]; exact H) | exact H
         have Ny105 := Aside0.mk hy105
         clear hy105
         have H' := Aside0.mk H
         clear H
         try go_wp2
         have n0_ := am_ (Kd.R_drew HO_3.out)
         have n1_ := am_ (below_drew1 HB.out)
         clear HO_3 HB
         have HO_3 := n0_
         have HB := n1_
         clear n0_ n1_
         have p101 : 0 ≤ (x4_1 : Int) := of_decide_eq_true as_
         have q101 : x4_1 < (l0.length : Int) := of_decide_eq_true as_
         obtain ⟨ad101, e101, hx101_0, hx101_1⟩ := at_T24 HR0.out x4_1 p101 q101
         have hw101_1 := hx101_1
         have hw101_0 := hx101_0
         cases e101
         replace hx101_0 := (HB.out.cell (World.block_lt_of_cell? w _ hx101_0)).trans hx101_0
         replace hx101_1 := (HB.out.cell (World.block_lt_of_cell? w _ hx101_1)).trans hx101_1
         replace p101 := eq_true p101
         replace q101 := eq_true q101
         have p103 : 0 ≤ (x4_1 : Int) := of_decide_eq_true as_
         have q103 : x4_1 < (l0.length : Int) := of_decide_eq_true as_
         obtain ⟨ad103, e103, hx103_0, hx103_1⟩ := at_T24 HR0.out x4_1 p103 q103
         have hw103_1 := hx103_1
         have hw103_0 := hx103_0
         obtain rfl : ad101 = ad103 := (by injection e103)
         replace hx103_0 := (HB.out.cell (World.block_lt_of_cell? w _ hx103_0)).trans hx103_0
         replace hx103_1 := (HB.out.cell (World.block_lt_of_cell? w _ hx103_1)).trans hx103_1
         replace p103 := eq_true p103
         replace q103 := eq_true q103
         refine start_ (n := 17) (S := fun w' => w'.cell? (ad101.add ((x4_1).toNat * 2)) = some (.string ((rd_T24 l0 x4_1).f0)) ∧ w'.cell? ⟨(ad101.add ((x4_1).toNat * 2)).block, (ad101.add ((x4_1).toNat * 2)).off + 1, none⟩ = some (.string ((rd_T24 l0 x4_1).f1)) ∧ w'.cell? (ad101.add ((x4_1).toNat * 2)) = some (.string ((rd_T24 l0 x4_1).f0)) ∧ w'.cell? ⟨(ad101.add ((x4_1).toNat * 2)).block, (ad101.add ((x4_1).toNat * 2)).off + 1, none⟩ = some (.string ((rd_T24 l0 x4_1).f1))) (ds := []) #[false, false, false, false, false, false, false, false, false, false, false, false, false, false, false, false, false] kr_ rfl rfl ⟨((HB.out.cell (World.block_lt_of_cell? w _ hw101_0)).trans hw101_0), ((HB.out.cell (World.block_lt_of_cell? w _ hw101_1)).trans hw101_1), ((HB.out.cell (World.block_lt_of_cell? w _ hw103_0)).trans hw103_0), ((HB.out.cell (World.block_lt_of_cell? w _ hw103_1)).trans hw103_1)⟩ (fun hHeld => ?_); refine with_tabW tolllaw05_Few.tab5 tolllaw05_Few.bits5 (fun HT_ HW_ => ?_)
         generalize wc.drew = w10 at HO_3 HB hx101_0 hx101_1 hx103_0 hx103_1 hHeld ⊢
         refine pure_ (i := 0) (N := some 15) (v := ?_) (a' := ?_) #[true, false, false, false, false, false, false, false, false, false, false, false, false, false, false, false, false] rfl rfl (any_of HT_.out kr_) (fun _ _ _ h => h) (Or.inl ⟨by rfl, ?_⟩) ?_ ?_
         rotate_left
         ·intro w'
          go_simp
          with_reducible rfl
         rotate_left
         ·simp only [Act.put, sx_, s0_, s1_, i64_w, i32_w]
          rfl
         refine pure_ (i := 1) (N := some 16) (v := ?_) (a' := ?_) #[true, true, false, false, false, false, false, false, false, false, false, false, false, false, false, false, false] rfl rfl (any_of HT_.out kr_) (fun _ _ _ h => h) (Or.inl ⟨by rfl, ?_⟩) ?_ ?_
         rotate_left
         ·intro w'
          go_simp
          with_reducible rfl
         rotate_left
         ·simp only [Act.put, sx_, s0_, s1_, i64_w, i32_w]
          rfl
         refine pure_ (i := 2) (N := some 17) (v := ?_) (a' := ?_) #[true, true, true, false, false, false, false, false, false, false, false, false, false, false, false, false, false] rfl rfl (any_of HT_.out kr_) (fun _ _ _ h => h) (Or.inl ⟨by rfl, ?_⟩) ?_ ?_
         rotate_left
         ·intro w'
          go_simp
          with_reducible rfl
         rotate_left
         ·simp only [Act.put, sx_, s0_, s1_, i64_w, i32_w]
          rfl
         refine pure_ (i := 3) (N := some 18) (v := ?_) (a' := ?_) #[true, true, true, true, false, false, false, false, false, false, false, false, false, false, false, false, false] rfl rfl (any_of HT_.out kr_) (fun _ _ _ h => h) (Or.inl ⟨by rfl, ?_⟩) ?_ ?_
         rotate_left
         ·intro w'
          go_simp
          with_reducible rfl
         rotate_left
         ·simp only [Act.put, sx_, s0_, s1_, i64_w, i32_w]
          rfl
         refine pure_ (i := 4) (N := some 19) (v := ?_) (a' := ?_) #[true, true, true, true, true, false, false, false, false, false, false, false, false, false, false, false, false] rfl rfl (any_of HT_.out kr_) (fun _ _ _ h => h) (Or.inl ⟨by rfl, ?_⟩) ?_ ?_
         rotate_left
         ·intro w'
          go_simp
          with_reducible rfl
         rotate_left
         ·simp only [Act.put, sx_, s0_, s1_, i64_w, i32_w]
          rfl
         refine pure_ (i := 7) (N := some 22) (v := ?_) (a' := ?_) #[true, true, true, true, true, false, false, true, false, false, false, false, false, false, false, false, false] rfl rfl (any_of HT_.out kr_) (fun _ _ _ h => h) (Or.inl ⟨by rfl, ?_⟩) ?_ ?_
         rotate_left
         ·intro w'
          go_simp
          with_reducible rfl
         rotate_left
         ·simp only [Act.put, sx_, s0_, s1_, i64_w, i32_w]
          rfl
         refine pure_ (i := 8) (N := some 23) (v := ?_) (a' := ?_) #[true, true, true, true, true, false, false, true, true, false, false, false, false, false, false, false, false] rfl rfl (any_of HT_.out kr_) (fun _ _ _ h => h) (Or.inl ⟨by rfl, ?_⟩) ?_ ?_
         rotate_left
         ·intro w'
          go_simp
          with_reducible rfl
         rotate_left
         ·simp only [Act.put, sx_, s0_, s1_, i64_w, i32_w]
          rfl
         refine pure_ (i := 9) (N := some 24) (v := ?_) (a' := ?_) #[true, true, true, true, true, false, false, true, true, true, false, false, false, false, false, false, false] rfl rfl (any_of HT_.out kr_) (fun _ _ _ h => h) (Or.inl ⟨by rfl, ?_⟩) ?_ ?_
         rotate_left
         ·intro w'
          go_simp
          with_reducible rfl
         rotate_left
         ·simp only [Act.put, sx_, s0_, s1_, i64_w, i32_w]
          rfl
         refine pure_ (i := 10) (N := some 25) (v := ?_) (a' := ?_) #[true, true, true, true, true, false, false, true, true, true, true, false, false, false, false, false, false] rfl rfl (any_of HT_.out kr_) (fun _ _ _ h => h) (Or.inl ⟨by rfl, ?_⟩) ?_ ?_
         rotate_left
         ·intro w'
          go_simp
          with_reducible rfl
         rotate_left
         ·simp only [Act.put, sx_, s0_, s1_, i64_w, i32_w]
          rfl
         refine take_ (i := 5) (N := some 20) (v := ?_) (a' := ?_) #[true, true, true, true, true, true, false, true, true, true, true, false, false, false, false, false, false] rfl rfl (take_ofW HT_.out HW_.out kr_) (fun _ _ _ h => h) (Or.inl ⟨by rfl, ?_⟩) hHeld ?_ ?_
         rotate_left
         ·rintro w' ⟨s0, s1, s2, s3⟩
          go_simp
          with_reducible rfl
         rotate_left
         ·simp only [Act.put, sx_, s0_, s1_, i64_w, i32_w]
          rfl
         refine take_ (i := 11) (N := some 26) (v := ?_) (a' := ?_) #[true, true, true, true, true, true, false, true, true, true, true, true, false, false, false, false, false] rfl rfl (take_ofW HT_.out HW_.out kr_) (fun _ _ _ h => h) (Or.inl ⟨by rfl, ?_⟩) hHeld ?_ ?_
         rotate_left
         ·rintro w' ⟨s0, s1, s2, s3⟩
          go_simp
          with_reducible rfl
         rotate_left
         ·simp only [Act.put, sx_, s0_, s1_, i64_w, i32_w]
          rfl
         refine one_ (i := 6) (N := some 21) #[true, true, true, true, true, true, true, true, true, true, true, true, false, false, false, false, false] rfl rfl (one_of HT_.out kr_) (by decide) (fun K hK => ?_)
         refine goes_ Try.func11 kr_ rfl #[.string ((rd_T24 l0 x4_1).f0)] (by rfl) rfl rfl rl_ ?_
         with_reducible refine (tolllaw01_Few.calls ((rd_T24 l0 x4_1).f0) t102 _ A7.out).mono ?_
         rintro e w' ⟨rfl, ⟨nd, rfl⟩⟩
         refine ⟨_, rfl, ?_⟩
         refine hK.out _ _ ⟨((HB.out.cell (World.block_lt_of_cell? w _ hw101_0)).trans hw101_0), ((HB.out.cell (World.block_lt_of_cell? w _ hw101_1)).trans hw101_1), ((HB.out.cell (World.block_lt_of_cell? w _ hw103_0)).trans hw103_0), ((HB.out.cell (World.block_lt_of_cell? w _ hw103_1)).trans hw103_1)⟩ (fun hHeld => ?_)
         clear hK K
         refine norm_ (a' := ?_) ?_ ?_
         rotate_left
         ·show Act.put _ (some 21) _ = _
          simp only [Act.put, sx_, s0_, s1_, i64_w, i32_w]
          rfl
         refine one_ (i := 12) (N := some 27) #[true, true, true, true, true, true, true, true, true, true, true, true, true, false, false, false, false] rfl rfl (one_of HT_.out kr_) (by decide) (fun K hK => ?_)
         refine goes_ Try.func11 kr_ rfl #[.string ((rd_T24 l0 x4_1).f1)] (by rfl) rfl rfl rl_ ?_
         with_reducible refine (tolllaw01_Few.calls ((rd_T24 l0 x4_1).f1) t104 _ A8.out).mono ?_
         rintro e w' ⟨rfl, ⟨nd, rfl⟩⟩
         refine ⟨_, rfl, ?_⟩
         refine hK.out _ _ ⟨((HB.out.cell (World.block_lt_of_cell? w _ hw101_0)).trans hw101_0), ((HB.out.cell (World.block_lt_of_cell? w _ hw101_1)).trans hw101_1), ((HB.out.cell (World.block_lt_of_cell? w _ hw103_0)).trans hw103_0), ((HB.out.cell (World.block_lt_of_cell? w _ hw103_1)).trans hw103_1)⟩ (fun hHeld => ?_)
         clear hK K
         refine norm_ (a' := ?_) ?_ ?_
         rotate_left
         ·show Act.put _ (some 27) _ = _
          simp only [Act.put, sx_, s0_, s1_, i64_w, i32_w]
          rfl
         refine pure_ (i := 13) (N := some 28) (v := ?_) (a' := ?_) #[true, true, true, true, true, true, true, true, true, true, true, true, true, true, false, false, false] rfl rfl (any_of HT_.out kr_) (fun _ _ _ h => h) (Or.inl ⟨by rfl, ?_⟩) ?_ ?_
         rotate_left
         ·intro w'
          go_simp
          with_reducible rfl
         rotate_left
         ·simp only [Act.put, sx_, s0_, s1_, i64_w, i32_w]
          rfl
         refine one_ (i := 14) (N := some 29) #[true, true, true, true, true, true, true, true, true, true, true, true, true, true, true, false, false] rfl rfl (one_of HT_.out kr_) (by decide) (fun K hK => ?_)
         refine value_ (w1 := ?_) (v := ?_) (by rfl) rfl ?_ ?_
         rotate_left 2
         ·go_simp
          constructor
          ·rfl
          ·rfl
         refine hK.out _ _ ⟨(World.cell?_alloc_lt _ _ _ (World.block_lt_of_cell? _ _ (((HB.out.cell (World.block_lt_of_cell? w _ hw101_0)).trans hw101_0)))).trans (((HB.out.cell (World.block_lt_of_cell? w _ hw101_0)).trans hw101_0)), (World.cell?_alloc_lt _ _ _ (World.block_lt_of_cell? _ _ (((HB.out.cell (World.block_lt_of_cell? w _ hw101_1)).trans hw101_1)))).trans (((HB.out.cell (World.block_lt_of_cell? w _ hw101_1)).trans hw101_1)), (World.cell?_alloc_lt _ _ _ (World.block_lt_of_cell? _ _ (((HB.out.cell (World.block_lt_of_cell? w _ hw103_0)).trans hw103_0)))).trans (((HB.out.cell (World.block_lt_of_cell? w _ hw103_0)).trans hw103_0)), (World.cell?_alloc_lt _ _ _ (World.block_lt_of_cell? _ _ (((HB.out.cell (World.block_lt_of_cell? w _ hw103_1)).trans hw103_1)))).trans (((HB.out.cell (World.block_lt_of_cell? w _ hw103_1)).trans hw103_1))⟩ (fun hHeld => ?_)
         clear hK K
         refine norm_ (a' := ?_) ?_ ?_
         rotate_left
         ·show Act.put _ (some 29) _ = _
          simp only [Act.put, sx_, s0_, s1_, i64_w, i32_w]
          rfl
         refine one_ (i := 15) (N := some 30) #[true, true, true, true, true, true, true, true, true, true, true, true, true, true, true, true, false] rfl rfl (one_of HT_.out kr_) (by decide) (fun K hK => ?_)
         refine Kd.R_append_step k24 (w0 := w) w.heap.size (by rfl) (.tmp 15) (.tmp 29) 22 24 (.agg #[(.string ⟨#[]⟩), (.string ⟨#[]⟩)]) 32 rfl Try.underlying22 info24 rfl (by decide) (by omega) u3 x3_1 (⟨t102, t104⟩ : S24) [.string t102, .string t104] (fun _ => True) (fun _ => False) rfl rfl ?aP (fun _ hk => hk.elim) ?aF ?aO ?aB ?aS ?aL ?_
         (case aP => exact k24_mkM _ _ _ (⟨t102, t104⟩ : S24))
         (case aB => exact (bel_ HB.out))
         (case aF => exact (fun _ _ => trivial))
         (case aO => exact (R_ HO_3.out))
         (case aS => exact (below_size (bel_ HB.out)))
         (case aL => have := LMc9.out; omega)
         intro v106 w11 ho hb hg hat
         rw [← Ny105.out] at ho
         have n0_ := am_ (hb)
         have n1_ := am_ (ho)
         clear HB HO_3
         have HB := n0_
         have HO107 := n1_
         clear n0_ n1_ ho hb hg hat
         refine hK.out _ _ ⟨((HB.out.cell (World.block_lt_of_cell? w _ hw101_0)).trans hw101_0), ((HB.out.cell (World.block_lt_of_cell? w _ hw101_1)).trans hw101_1), ((HB.out.cell (World.block_lt_of_cell? w _ hw103_0)).trans hw103_0), ((HB.out.cell (World.block_lt_of_cell? w _ hw103_1)).trans hw103_1)⟩ (fun hHeld => ?_)
         clear hK K
         refine norm_ (a' := ?_) ?_ ?_
         rotate_left
         ·show Act.put _ (some 30) _ = _
          simp only [Act.put, sx_, s0_, s1_, i64_w, i32_w]
          rfl
         refine pure_ (i := 16) (N := some 3) (v := ?_) (a' := ?_) #[true, true, true, true, true, true, true, true, true, true, true, true, true, true, true, true, true] rfl rfl (any_of HT_.out kr_) (fun _ _ _ h => h) (Or.inl ⟨by rfl, ?_⟩) ?_ ?_
         rotate_left
         ·intro w'
          go_simp
          with_reducible rfl
         rotate_left
         ·simp only [Act.put, sx_, s0_, s1_, i64_w, i32_w]
          rfl
         refine done_ (done_of HT_.out kr_) ?_
         try go_wp2
         go_roundg kj1
         case measure => have := HK1.out; have := HJ1.out; omega
         case rel => exact ⟨(y105), (wrap64 (x4_1 + 1)), sd_, H', ⟨by have := HK1.out; have := HJ1.out; omega⟩, ⟨by (with_reducible repeat (first | apply Kd.R_alloc | apply Kd.R_drewN | apply Kd.R_drew)); exact HO107.out⟩, ⟨bel_ HB.out⟩⟩
        ·rw [if_neg c9] at H
         exact absurd H (by simp)
       ·rw [if_neg c6] at H
        exact absurd H (by simp)
      ·rw [if_neg c5] at H
       exact absurd H (by simp)
     ·replace c4 := Bool.eq_false_iff.mpr c4
      subst c4
      have H1 : (some x3_1) = some r := by rw [if_neg (show ¬ (false = true) by decide)] at H; exact H
      clear H
      have H := H1
      clear H1
      obtain rfl := Option.some.inj H
      go_wp2
      go_ret
      exact ⟨_, by first | rfl | (simp [errW_none, errW_some] <;> rfl) | (simp [*, errW_none, errW_some] <;> rfl), by (with_reducible repeat (first | apply Kd.R_alloc | apply Kd.R_drewN | apply Kd.R_drew)); exact HO_3.out, bel_ HB.out⟩

/-! ### api_Pair_21: function 21 -/
set_option maxHeartbeats 8000000 in
set_option maxRecDepth 100000 in
theorem api_Pair_21.calls (A0 : Option Addr) (c0 : Nat) (l0 : List (S24)) (w : World) (hr0 : Kd.C k24 w A0 l0.length l0) (p : S24 → Bool) (g : Nat) (lb : Array Value)
  (eg : ∀ args W, (callFunc g args).run Try.prog W = .ok (.enter g args) W) (hp : PredK Try.prog g lb k24 l0 p w) :
  Calls Try.prog 21 #[.slice A0 l0.length c0, .func (.func g) #[] lb] w fun e w' => e = .returned (.int .i64 (idxI p l0)) ∧ Below w.heap.size w w' := by
 have HR := Aside0.mk hr0
 have HP := Aside0.mk hp
 have hmx := hr0.2.1
 clear hr0 hp
 go_enter Try.func21, Try.ntmps21
 go_wp2
 go_loopg [5, 8] l0.length (fun gg _ s8 wr => ∃ kk : Nat, kk ≤ l0.length ∧ l0.length - kk ≤ gg ∧ s8 = .int .i64 kk ∧ Aside0 (Below w.heap.size w wr) ∧ Aside0 (∀ j : Nat, j < kk → p (rd_T24 l0 j) = false))
 case atStart => exact ⟨0, Nat.zero_le _, by omega, rfl, ⟨Below.refl _ w⟩, ⟨fun j hj => absurd hj (Nat.not_lt_zero _)⟩⟩
 case round =>
  obtain ⟨kk, hkk, hg, rfl, BW, AL⟩ := hrel
  by_cases hlt : kk < l0.length
  ·have p1 : (0 : Int) ≤ (kk : Int) := by omega
   have q1 : (kk : Int) < (l0.length : Int) := by omega
   obtain ⟨ad, ea, hx_0, hx_1⟩ := at_T24 HR.out (kk : Int) p1 q1
   cases ea
   replace hx_0 := (BW.out.cell (World.block_lt_of_cell? w _ hx_0)).trans hx_0
   replace hx_1 := (BW.out.cell (World.block_lt_of_cell? w _ hx_1)).trans hx_1
   have hmem : rd_T24 l0 (kk : Int) ∈ l0 := by
    unfold rd_T24
    rw [Int.toNat_natCast, getD_at _ _ hlt]
    exact List.getElem_mem hlt
   have hcall := HP.out wr (rd_T24 l0 (kk : Int)) [.string (rd_T24 l0 (kk : Int)).f0, .string (rd_T24 l0 (kk : Int)).f1] hmem BW.out (k24_mk _ _)
   clear hmem
   simp only [Int.toNat_natCast] at hx_0 hx_1
   generalize hy : rd_T24 l0 (kk : Int) = y at *
   have HY := Aside0.mk hy
   clear hy
   replace p1 := eq_true p1
   replace q1 := eq_true q1
   cases hq : p y with
   | true =>
    rw [hq] at hcall
    have HQ := Aside0.mk hq
    clear hq
    have HC := Aside0.mk hcall
    clear hcall
    go_wp2_with (go_at_fn g; refine HC.out.mono ?_; rintro e w' ⟨rfl, hb'⟩; have HB' := Aside0.mk hb'; clear hb')
    go_ret
    refine ⟨?_, HB'.out⟩
    rw [idxI_hit p l0 kk hlt (fun j hj => by have := AL.out j hj; unfold rd_T24 at this; rwa [Int.toNat_natCast, getD_at _ _ (by omega)] at this) (by have := HY.out; unfold rd_T24 at this; rw [Int.toNat_natCast, getD_at _ _ hlt] at this; rw [this]; exact HQ.out)]
    rfl
   | false =>
    rw [hq] at hcall
    have HQ := Aside0.mk hq
    clear hq
    have HC := Aside0.mk hcall
    clear hcall
    go_wp2_with (go_at_fn g; refine HC.out.mono ?_; rintro e w' ⟨rfl, hb'⟩; have HB' := Aside0.mk hb'; clear hb')
    go_roundg (l0.length - (kk + 1))
    case measure => omega
    case rel =>
     refine ⟨kk + 1, by omega, by omega, by go_num, HB', ⟨fun j hj => ?_⟩⟩
     by_cases e : j = kk
     ·subst e
      rw [HY.out]; exact HQ.out
     ·exact AL.out j (by omega)
  ·have q1 : ¬ (kk : Int) < (l0.length : Int) := by omega
   obtain rfl : kk = l0.length := by omega
   go_wp2
   go_ret
   refine ⟨?_, BW.out⟩
   rw [idxI_miss p l0 (fun j hj => by have := AL.out j hj; unfold rd_T24 at this; rwa [Int.toNat_natCast, getD_at _ _ hj] at this)]
   rfl

/-- Pairs in a block of cells of their own. -/
def Row2 (w : World) (g cap : Nat) (l : List S24) : Prop := ∃ cur, w.heap[g]? = some (.cells cur 24 (0, 0)) ∧ cur.size = cap * 2 ∧ l.length ≤ cap ∧ ∀ j (hj : j < l.length), cur[j * 2]? = some (.string (l[j]'hj).f0) ∧ cur[j * 2 + 1]? = some (.string (l[j]'hj).f1)
theorem Row2.cell {w : World} {g cap : Nat} {l : List S24} (h : Row2 w g cap l) (j : Nat) (hj : j < l.length) : w.cell? ⟨g, j * 2, none⟩ = some (.string (l[j]'hj).f0) ∧ w.cell? ⟨g, j * 2 + 1, none⟩ = some (.string (l[j]'hj).f1) := by
 obtain ⟨cur, hh, hs, hl, hc⟩ := h
 exact ⟨(blk_cell hh _).trans (hc j hj).1, (blk_cell hh _).trans (hc j hj).2⟩
theorem Row2.room {w : World} {g cap : Nat} {l : List S24} (h : Row2 w g cap l) (j : Nat) (hj : j < cap * 2) : (w.cell? ⟨g, j, none⟩).isSome = true := by
 obtain ⟨cur, hh, hs, hl, hc⟩ := h
 rw [blk_cell hh, Array.getElem?_eq_getElem (by omega)]; rfl
theorem Row2.frozen {w : World} {g cap : Nat} {l : List S24} (h : Row2 w g cap l) (j : Nat) : w.frozen? ⟨g, j, none⟩ = false := by
 obtain ⟨cur, hh, hs, hl, hc⟩ := h
 exact blk_frozen hh _
theorem Row2.lt {w : World} {g cap : Nat} {l : List S24} (h : Row2 w g cap l) : g < w.heap.size := by
 obtain ⟨cur, hh, hs, hl, hc⟩ := h
 exact blk_lt hh
theorem Row2.put {w : World} {g cap : Nat} {l : List S24} (h : Row2 w g cap l) (i : Nat) (hi : i < l.length) (x : S24) : Row2 ((w.setCell ⟨g, i * 2, none⟩ (.string x.f0)).setCell ⟨g, i * 2 + 1, none⟩ (.string x.f1)) g cap (l.set i x) := by
 obtain ⟨cur, hh, hs, hl, hc⟩ := h
 refine ⟨_, blk_put (blk_put hh (i * 2) _ rfl) (i * 2 + 1) _ rfl, by simpa using hs, by simpa using hl, fun j hj => ?_⟩
 have hj' : j < l.length := by simpa using hj
 have := hc j hj'
 simp only [Array.getElem?_setIfInBounds, Array.size_setIfInBounds, List.getElem_set]
 by_cases e : i = j
 ·subst e
  simp [show i * 2 < cur.size by omega, show i * 2 + 1 < cur.size by omega]
 ·have e1 : ¬ i * 2 = j * 2 := by omega
  have e2 : ¬ i * 2 + 1 = j * 2 + 1 := by omega
  have e3 : ¬ i * 2 + 1 = j * 2 := by omega
  have e4 : ¬ i * 2 = j * 2 + 1 := by omega
  simp [e, e1, e2, e3, e4, this]
theorem Row2.move {w w' : World} {g cap : Nat} {l : List S24} (h : Row2 w g cap l) (hm : w'.heap[g]? = w.heap[g]?) : Row2 w' g cap l := by
 obtain ⟨cur, hh, h⟩ := h
 exact ⟨cur, hm.trans hh, h⟩
theorem Row2.below {w w' : World} {g cap : Nat} {l : List S24} (h : Row2 w g cap l) (hb : Below w.heap.size w w') : Row2 w' g cap l := h.move (hb.block g h.lt)
theorem Row2.take {w : World} {g cap : Nat} {l : List S24} (h : Row2 w g cap l) (k : Nat) : Row2 w g cap (l.take k) := by
 obtain ⟨cur, hh, hs, hl, hc⟩ := h
 exact ⟨cur, hh, hs, by rw [List.length_take]; omega, fun j hj => by rw [List.getElem_take]; exact hc j (by rw [List.length_take] at hj; omega)⟩
theorem row2_of {w : World} {base : Nat} {ok : Nat → Prop} {A : Addr} {n c : Nat} {l : List S24} (h : Kd.R k24 24 w base ok (.slice (some A) n c) l) : ∃ g, A = ⟨g, 0, none⟩ ∧ n = l.length ∧ base ≤ g ∧ c ≤ maxLen ∧ Row2 w g c l := by
 obtain ⟨_, inner, ⟨hl, ho⟩, hr⟩ := h
 rcases ho with ⟨e, _⟩ | ⟨g, cap, cur, e, hb, hh, hn, hx, hs, ht⟩
 ·cases e
 ·injection e with e1 e2 e3
  injection e1 with e1
  subst e1 e2 e3
  refine ⟨g, rfl, rfl, hb, hx, cur, hh, hs, hn, fun j hj => ?_⟩
  have hK := k24_openM (hr.2 j (l[j]'hj) (List.getElem?_eq_getElem hj))
  have hz : k24.sz = 2 := rfl
  rw [hz] at hK ht
  have g0 : inner[j * 2]? = some (.string (l[j]'hj).f0) := by
   have := congrArg (fun z => z[0]?) hK
   simpa [List.getElem?_take, List.getElem?_drop] using this
  have g1 : inner[j * 2 + 1]? = some (.string (l[j]'hj).f1) := by
   have := congrArg (fun z => z[1]?) hK
   simpa [List.getElem?_take, List.getElem?_drop] using this
  rw [← ht, List.getElem?_take] at g0 g1
  rw [if_pos (by omega)] at g0 g1
  exact ⟨by simpa using g0, by simpa using g1⟩
theorem Row2.R {w : World} {g cap : Nat} {l : List S24} (h : Row2 w g cap l) {base : Nat} (hb : base ≤ g) (hx : cap ≤ maxLen) : Kd.R k24 24 w base (fun _ => True) (.slice (some ⟨g, 0, none⟩) l.length cap) l := by
 obtain ⟨cur, hh, hs, hn, hc⟩ := h
 have hz : k24.sz = 2 := rfl
 have hcl : (cur.toList.take (l.length * 2)).length = l.length * 2 := by simp only [List.length_take, Array.length_toList]; omega
 refine ⟨fun _ _ => trivial, cur.toList.take (l.length * 2), ⟨by rw [hz]; exact hcl, .inr ⟨g, cap, cur, rfl, hb, hh, hn, hx, hs, rfl⟩⟩, by rw [hz]; exact hcl, fun j p hj => ?_⟩
 obtain ⟨hj1, rfl⟩ := List.getElem?_eq_some_iff.1 hj
 have hc' := hc j hj1
 rw [hz, show ((cur.toList.take (l.length * 2)).drop (j * 2)).take 2 = [.string (l[j]'hj1).f0, .string (l[j]'hj1).f1] from ?_]
 ·exact k24_mkM _ _ _ _
 ·apply List.ext_getElem?
  intro k
  rw [List.getElem?_take, List.getElem?_drop, List.getElem?_take]
  rcases k with _ | _ | k
  ·rw [if_pos (by omega), if_pos (by omega)]; simpa using hc'.1
  ·rw [if_pos (by omega), if_pos (by omega)]; simpa using hc'.2
  ·rw [if_neg (by omega)]; simp
theorem gb_below {w W : World} {row : Option Nat} (h : Below w.heap.size w W) : w.grownBy W row := ⟨h.os, h.tape, h.output, h.size, fun k hk _ => h.block k hk⟩
theorem gb_trans {w W W' : World} {row : Option Nat} (h : w.grownBy W row) (hb : W.grownBy W' row) : w.grownBy W' row := ⟨hb.os.trans h.os, hb.tape.trans h.tape, hb.output.trans h.output, Nat.le_trans h.size hb.size, fun k hk hr => (hb.block k (Nat.lt_of_lt_of_le hk h.size) hr).trans (h.block k hk hr)⟩
theorem gb_step {w W W' : World} {row : Option Nat} (h : w.grownBy W row) (hb : Below W.heap.size W W') : w.grownBy W' row := gb_trans h (gb_below hb)
theorem gb_set {w W : World} {g : Nat} (h : w.grownBy W (some g)) (j : Nat) (u : Value) : w.grownBy (W.setCell ⟨g, j, none⟩ u) (some g) :=
 gb_trans h ⟨rfl, rfl, rfl, by simp [World.setCell], fun k hk hr => Below.heap_setCell W ⟨g, j, none⟩ u k (fun e => hr (by rw [e]))⟩
/-- What grew but for a block made later than B is as it was below B. -/
theorem gb_out {w W : World} {B : Nat} {row : Option Nat} (h : w.grownBy W row) (hB : B ≤ w.heap.size) (hr : ∀ k, row = some k → B ≤ k) : Below B w W := ⟨h.os, h.tape, h.output, h.size, fun k hk => h.block k (by omega) (fun e => by have := hr k e.symm; omega)⟩

/-! ### api_Pair_15: function 15 -/
theorem idxI_spec {α : Type} (p : α → Bool) (l : List α) : (idxI p l = -1 ∧ ∀ x ∈ l, p x = false) ∨ ∃ (k : Nat) (hk : k < l.length), idxI p l = (k : Int) ∧ p (l[k]'hk) = true ∧ ∀ j (hj : j < k), p (l[j]'(by omega)) = false := by
 by_cases h : l.any p = true
 ·have hlt : l.findIdx p < l.length := List.findIdx_lt_length_of_exists (by obtain ⟨x, hx, hp⟩ := List.any_eq_true.1 h; exact ⟨x, hx, hp⟩)
  have h2 := (List.findIdx_eq hlt).1 rfl
  refine .inr ⟨_, hlt, by unfold idxI; rw [if_pos h], h2.1, fun j hj => by simpa using h2.2 j hj⟩
 ·refine .inl ⟨by unfold idxI; rw [if_neg h], fun x hx => ?_⟩
  have h' : l.any p = false := by simpa using h
  simpa using List.any_eq_false.1 h' x hx
/-- What the deleting loop keeps: of the first j elements i are kept, and lie at the head; from place i on all is as it was. -/
structure KeptD {α : Type} (p : α → Bool) (l : List α) (i j : Nat) (dk : List α) : Prop where
 len : dk.length = l.length
 lt : i < j
 le : j ≤ l.length
 head : dk.take i = (l.take j).filter (fun x => !p x)
 tail : dk.drop i = l.drop i
theorem KeptD.start {α : Type} {p : α → Bool} {l : List α} {k : Nat} (hk : k < l.length) (h0 : ∀ j (hj : j < k), p (l[j]'(by omega)) = false) (h1 : p (l[k]'hk) = true) : KeptD p l k (k + 1) l := by
 refine ⟨rfl, by omega, by omega, ?_, rfl⟩
 rw [List.take_succ_eq_append_getElem hk, List.filter_append, List.filter_cons, h1]
 have : (l.take k).filter (fun x => !p x) = l.take k := List.filter_eq_self.2 fun x hx => by
  obtain ⟨j, hj, rfl⟩ := List.getElem_of_mem hx
  rw [List.length_take] at hj
  rw [List.getElem_take, h0 j (by omega)]; rfl
 rw [this]; simp
theorem KeptD.at_ {α : Type} {p : α → Bool} {l dk : List α} {i j : Nat} (h : KeptD p l i j dk) (hj : j < l.length) : dk[j]'(by rw [h.len]; exact hj) = l[j]'hj := by
 have h1 := congrArg (fun z => z[j - i]?) h.tail
 have := h.lt
 simp only [List.getElem?_drop, show i + (j - i) = j by omega] at h1
 rw [List.getElem?_eq_getElem hj, List.getElem?_eq_getElem (by rw [h.len]; exact hj)] at h1
 exact Option.some.inj h1
theorem KeptD.keep {α : Type} {p : α → Bool} {l dk : List α} {i j : Nat} (h : KeptD p l i j dk) (hj : j < l.length) (hp : p (l[j]'hj) = false) : KeptD p l (i + 1) (j + 1) (dk.set i (l[j]'hj)) := by
 have h1 := h.lt; have h2 := h.len
 refine ⟨by simpa using h2, by omega, by omega, ?_, ?_⟩
 ·rw [List.take_succ_eq_append_getElem hj, List.filter_append, List.filter_cons, hp, ← h.head, List.take_succ_eq_append_getElem (by simp; omega), List.take_set_of_le (Nat.le_refl _)]
  simp
 ·rw [List.drop_set_of_lt (by omega)]
  have := congrArg (List.drop 1) h.tail
  simpa [List.drop_drop, Nat.add_comm] using this
theorem KeptD.skip {α : Type} {p : α → Bool} {l dk : List α} {i j : Nat} (h : KeptD p l i j dk) (hj : j < l.length) (hp : p (l[j]'hj) = true) : KeptD p l i (j + 1) dk := by
 have h1 := h.lt
 refine ⟨h.len, by omega, by omega, ?_, h.tail⟩
 rw [List.take_succ_eq_append_getElem hj, List.filter_append, List.filter_cons, hp, ← h.head]
 simp
theorem KeptD.done {α : Type} {p : α → Bool} {l dk : List α} {i j : Nat} (h : KeptD p l i j dk) (hj : ¬ j < l.length) : dk.take i = l.filter (fun x => !p x) ∧ i = (l.filter (fun x => !p x)).length ∧ i < l.length := by
 have h1 := h.lt; have h2 := h.le; have h3 := h.len
 have e := h.head
 rw [show l.take j = l from List.take_of_length_le (by omega)] at e
 refine ⟨e, ?_, by omega⟩
 rw [← e, List.length_take]; omega
theorem run_clear_pair {w : World} {g cap : Nat} {l : List S24} (h : Row2 w g cap l) (k : Nat) (hk : k < l.length) (ty c : Nat) :
  ∃ w1, (Builtin.clear_ #[22] ty #[.slice (some ⟨g, k * 2, none⟩) (l.length - k) c]).run Try.prog w = .ok (.tuple #[]) w1 ∧ Row2 w1 g cap (l.take k) ∧ w.grownBy w1 (some g) := by
 obtain ⟨cur, hh, hs, hl, hc⟩ := h
 have hv : ∀ W, (zeroValue 24).run Try.prog W = .ok ((.agg #[(.string ⟨#[]⟩), (.string ⟨#[]⟩)])) W := fun W => by
  have := info24
  cases hq : Try.prog.info? 24 with
  | none => rw [hq] at this; cases this
  | some i =>
   rw [hq] at this
   simp only [Option.map_some, Option.some.injEq, Prod.mk.injEq] at this
   simp [zeroValue, typeInfo, hq, this.1]
 have hz : ∀ v ∈ (Builtin.zeroCells ((.agg #[(.string ⟨#[]⟩), (.string ⟨#[]⟩)]) : Value).cells (l.length - k)).toList, v.oneCell' = true := fun v hv => by
  simp only [Builtin.zeroCells, Array.toList_map, List.mem_map] at hv
  obtain ⟨i, _, rfl⟩ := hv
  have : ∀ j, j < 2 → ((((.agg #[(.string ⟨#[]⟩), (.string ⟨#[]⟩)]) : Value).cells)[j]!).oneCell' = true := by decide
  exact this _ (Nat.mod_lt _ (by decide))
 have hzl : (Builtin.zeroCells ((.agg #[(.string ⟨#[]⟩), (.string ⟨#[]⟩)]) : Value).cells (l.length - k)).toList.length = (l.length - k) * 2 := by
  simp [Builtin.zeroCells]; rfl
 have hst := run_storeCells_at Try.prog g (k * 2) 24 (Builtin.zeroCells ((.agg #[(.string ⟨#[]⟩), (.string ⟨#[]⟩)]) : Value).cells (l.length - k)).toList 0 cur w hh (by rw [hzl]; omega) hz
 have hlt := blk_lt hh
 generalize hV : Builtin.zeroCells ((.agg #[(.string ⟨#[]⟩), (.string ⟨#[]⟩)]) : Value).cells (l.length - k) = V at hz hzl hst
 refine ⟨w.setRow g (cur.toList.take (k * 2 + 0) ++ V.toList ++ cur.toList.drop (k * 2 + 0 + V.toList.length)).toArray, ?_, ?_, ?_⟩
 ·obtain ⟨m, hm⟩ : ∃ m, l.length - k = m + 1 := ⟨l.length - k - 1, by omega⟩
  rw [hm] at hV ⊢
  simp only [Builtin.clear_, List.getElem?_toArray, List.getElem?_cons_zero, Sem.run_bind, run_underlying Try.underlying22, Result.andThen_ok, hv, hV, hst, Sem.run_pure]
 ·refine ⟨_, setRow_heap w g cur _ 24 _ hh, ?_, by rw [List.length_take]; omega, fun j hj => ?_⟩
  ·simp only [List.size_toArray, List.length_append, List.length_take, List.length_drop, Array.length_toList, hzl]; omega
  ·have hj' : j < k := by rw [List.length_take] at hj; omega
   have := hc j (by omega)
   rw [List.getElem_take]
   simp only [List.getElem?_toArray]
   rw [List.append_assoc, List.getElem?_append_left (by simp; omega), List.getElem?_append_left (by simp; omega), List.getElem?_take, List.getElem?_take, if_pos (by omega), if_pos (by omega)]
   simpa using this
 ·exact ⟨rfl, rfl, rfl, by simp [World.setRow], fun i _ hi => by simp [World.setRow, Array.getElem?_modify, show ¬ g = i from fun e => hi (by rw [e])]⟩
set_option maxHeartbeats 8000000 in
set_option maxRecDepth 100000 in
theorem api_Pair_15.calls (base : Nat) (v0 : Value) (l0 : List S24) (w : World) (hr : Kd.R k24 24 w base (fun _ => True) v0 l0) (p : S24 → Bool) (g : Nat) (lb : Array Value)
  (eg : ∀ args W, (callFunc g args).run Try.prog W = .ok (.enter g args) W)
  (hp : ∀ (W : World) (x : S24), x ∈ l0 → w.grownBy W v0.ownBlock → Calls Try.prog g (#[.agg #[.string x.f0, .string x.f1]] ++ lb) W fun e w' => e = .returned (.bool (p x)) ∧ Below W.heap.size W w') :
  Calls Try.prog 15 #[v0, .func (.func g) #[] lb] w fun e w' => ∃ v1, e = .returned v1 ∧ Kd.R k24 24 w' base (fun _ => True) v1 (l0.filter fun x => !p x) ∧ w.grownBy w' v0.ownBlock ∧ ((∃ x ∈ l0, p x = true) → ∃ g1 c, v0 = .slice (some ⟨g1, 0, none⟩) l0.length c ∧ v1 = .slice (some ⟨g1, 0, none⟩) (l0.filter fun x => !p x).length c) := by
 obtain ⟨A0, c0, rfl, hc0, hC⟩ := Kd.R_reads hr
 have hmx := hC.2.1
 have hix := api_Pair_21.calls A0 c0 l0 w hC p g lb eg (fun W x cs hx hb hk => by
  obtain rfl := k24_open hk
  exact (hp W x hx (gb_below hb)).mono (fun e w' h => ⟨h.1, hb.trans (h.2.mono hb.size)⟩))
 rcases idxI_spec p l0 with ⟨e0, hall⟩ | ⟨k0, hk0, e0, hpk, hbef⟩
 ·rw [e0] at hix
  have hf : (l0.filter fun x => !p x) = l0 := List.filter_eq_self.2 fun x hx => by rw [hall x hx]; rfl
  rw [hf]
  have HR := Aside0.mk hr
  have HI := Aside0.mk hix
  have HA := Aside0.mk hall
  clear hr hix hp hC hall e0 hf
  go_enter Try.func15, Try.ntmps15
  go_wp2_with (go_at_call 21; refine HI.out.mono ?_; rintro e w' ⟨rfl, hb'⟩; have HB' := Aside0.mk hb'; clear hb')
  go_ret
  exact ⟨_, rfl, Kd.R_below HR.out HB'.out, gb_below HB'.out, fun ⟨x, hx, hpx⟩ => absurd hpx (by rw [HA.out x hx]; decide)⟩
 ·rw [e0] at hix
  obtain ⟨ad, rfl⟩ : ∃ ad, A0 = some ad := by
   obtain ⟨ad, he, _⟩ := hC.2.2 (by omega)
   exact ⟨ad, he⟩
  obtain ⟨gb, rfl, -, hgb, hcm, hrow⟩ := row2_of hr
  have hp' : ∀ (W : World) (x : S24), x ∈ l0 → w.grownBy W (some gb) → Calls Try.prog g (#[.agg #[.string x.f0, .string x.f1]] ++ lb) W fun e w' => e = .returned (.bool (p x)) ∧ Below W.heap.size W w' := hp
  have HI := Aside0.mk hix
  have HP := Aside0.mk hp'
  have HW := Aside0.mk hrow
  have HK2 := am_ (KeptD.start hk0 hbef hpk)
  have HGB := am_ (And.intro hgb hcm)
  have hne1 : ((k0 : Int) == -1) = false := beq_eq_false_iff_ne.2 (by omega)
  clear hr hix hp hC hrow hbef hpk e0 hp' hgb hcm
  go_enter Try.func15, Try.ntmps15
  go_wp2_with (go_at_call 21; refine HI.out.mono ?_; rintro e w' ⟨rfl, hb'⟩; have HB' := Aside0.mk hb'; clear hb')
  go_loopg [5, 6, 7] l0.length (fun gg s5 s6 _ wr => ∃ (i j : Nat) (dk : List S24), s5 = .int .i64 i ∧ s6 = .int .i64 j ∧ j ≤ l0.length ∧ l0.length - j ≤ gg ∧ Aside0 (KeptD p l0 i j dk) ∧ Aside0 (Row2 wr gb c0 dk) ∧ Aside0 (w.grownBy wr (some gb)))
  case atStart => exact ⟨k0, k0 + 1, l0, rfl, by go_num, by omega, by omega, HK2, ⟨HW.out.below HB'.out⟩, ⟨gb_below HB'.out⟩⟩
  case round =>
   clear HW HK2 HB' HI
   obtain ⟨i, j, dk, rfl, rfl, hjl, hgg, KI, RW, KB⟩ := hrel
   have hij := KI.out.lt
   have hdl := KI.out.len
   by_cases hlt : j < l0.length
   ·have p1 : (0 : Int) ≤ (j : Int) := by omega
    have q1 : (j : Int) < (l0.length : Int) := by omega
    have p2 : (0 : Int) ≤ (i : Int) := by omega
    have q2 : (i : Int) < (l0.length : Int) := by omega
    obtain ⟨hx0, hx1⟩ := RW.out.cell j (by omega)
    have hgl := RW.out.lt
    rw [KI.out.at_ hlt] at hx0 hx1
    have hmem : l0[j]'hlt ∈ l0 := List.getElem_mem hlt
    have hcall := HP.out (wr.alloc (.cells #[.string (l0[j]'hlt).f0, .string (l0[j]'hlt).f1] 24)) _ hmem (gb_step KB.out ((Below.refl _ wr).alloc (Nat.le_refl _) _))
    clear hmem
    have KKeep : p (l0[j]'hlt) = false → KeptD p l0 (i + 1) (j + 1) (dk.set i (l0[j]'hlt)) := fun hq => KI.out.keep hlt hq
    have KSkip : p (l0[j]'hlt) = true → KeptD p l0 i (j + 1) dk := fun hq => KI.out.skip hlt hq
    generalize hy : l0[j]'hlt = y at *
    clear hy
    have hil : i < dk.length := by omega
    replace p1 := eq_true p1
    replace q1 := eq_true q1
    replace p2 := eq_true p2
    replace q2 := eq_true q2
    cases hq : p y with
    | true =>
     rw [hq] at hcall
     have K2 := am_ (KSkip hq)
     have HC := Aside0.mk hcall
     clear hcall hq KSkip KKeep
     go_wp2_with (go_at_fn g; refine HC.out.mono ?_; rintro e w' ⟨rfl, hb'⟩; have HB' := am_ (((Below.refl wr.heap.size wr).alloc (Nat.le_refl _) _).trans (hb'.mono (by simp))); clear hb')
     go_roundg (l0.length - (j + 1))
     case measure => omega
     case rel => exact ⟨i, j + 1, dk, rfl, by go_num, by omega, by omega, K2, ⟨RW.out.below HB'.out⟩, ⟨gb_step KB.out HB'.out⟩⟩
    | false =>
     rw [hq] at hcall
     have K2 := am_ (KKeep hq)
     have HC := Aside0.mk hcall
     clear hcall hq KSkip KKeep
     go_wp2_with (go_at_fn g; refine HC.out.mono ?_; rintro e w' ⟨rfl, hb'⟩; have HB' := am_ (((Below.refl wr.heap.size wr).alloc (Nat.le_refl _) _).trans (hb'.mono (by simp))); have hp0 : w'.cell? ⟨wr.heap.size, 0, none⟩ = some (.string y.f0) := (hb'.cell (p := ⟨wr.heap.size, 0, none⟩) (by simp)).trans (by simp [World.cell?_alloc_new]); have hp1 : w'.cell? ⟨wr.heap.size, 1, none⟩ = some (.string y.f1) := (hb'.cell (p := ⟨wr.heap.size, 1, none⟩) (by simp)).trans (by simp [World.cell?_alloc_new]); obtain ⟨ho0, ho1⟩ := (RW.out.below HB'.out).cell i hil; have hz0 := (RW.out.below HB'.out).frozen (i * 2); have hz1 := (RW.out.below HB'.out).frozen (i * 2 + 1); clear hb')
     go_roundg (l0.length - (j + 1))
     case measure => omega
     case rel => exact ⟨i + 1, j + 1, dk.set i y, by go_num, by go_num, by omega, by omega, K2, ⟨(RW.out.below HB'.out).put i hil y⟩, ⟨gb_set (gb_set (gb_step KB.out HB'.out) _ _) _ _⟩⟩
   ·obtain ⟨hd1, hd2, hd3⟩ := KI.out.done hlt
    obtain ⟨w1, hcl0, hr1, hk1⟩ := run_clear_pair RW.out i (by omega) 0 (c0 - i)
    have hcl : ∀ ty, (Builtin.clear_ #[22] ty #[.slice (some ⟨gb, i * 2, none⟩) (l0.length - i) (c0 - i)]).run Try.prog wr = .ok (.tuple #[]) w1 := fun ty => by rw [← hdl]; exact hcl0
    clear hcl0
    rw [hd1] at hr1
    have q1 : ¬ (j : Int) < (l0.length : Int) := by omega
    have hb1 : (0 : Int) ≤ (i : Int) := by omega
    have hb2 : (i : Int) ≤ (l0.length : Int) := by omega
    have hb3 : (i : Int) ≤ (c0 : Int) := by omega
    have R1 := Aside0.mk hr1
    have K1 := Aside0.mk hk1
    have D1 := Aside0.mk hd2
    obtain rfl : j = l0.length := by omega
    clear hr1 hk1 hd1 hd2
    go_wp2
    go_ret
    refine ⟨_, rfl, ?_, ?_, ?_⟩
    ·have := R1.out.R HGB.out.1 HGB.out.2
     rwa [← D1.out] at this
    ·exact gb_trans KB.out K1.out
    ·exact fun _ _ _ => ⟨gb, c0, ⟨rfl, rfl⟩, by rw [← D1.out]; rfl⟩

/-! ### api_Pair_16: function 16 -/
def api_Pair_16.f (l0 : List (S24)) : Option (List (S24)) := if l0.length * 32 ≤ 140737488355328 then some l0 else none
set_option maxHeartbeats 8000000 in
set_option maxRecDepth 100000 in
theorem api_Pair_16.calls (A0 : Option Addr) (c0 : Nat) (l0 : List (S24)) (r : List (S24)) (w : World) (hr0 : Kd.C k24 w A0 l0.length l0) (hc0 : l0.length ≤ c0) (h : api_Pair_16.f l0 = some r) :
  Calls Try.prog 16 #[.slice A0 l0.length c0] w fun e w' => ∃ v0_ : Value, e = .returned (v0_) ∧ Kd.R k24 24 w' w.heap.size (fun _ => True) v0_ r ∧ Below w.heap.size w w' := by
 have hlim : l0.length * 32 ≤ 140737488355328 := by
  by_cases hx : l0.length * 32 ≤ 140737488355328
  ·exact hx
  ·rw [api_Pair_16.f, if_neg hx] at h; cases h
 rw [api_Pair_16.f, if_pos hlim] at h
 obtain rfl := Option.some.inj h
 clear h
 have HR := Aside0.mk hr0
 have LM := Aside0.mk hlim
 clear hlim hc0
 have hq := fun (W : World) (a : Option Addr) (n c n' c' : Nat) => Lib.run_eql_slice_nil (P := Try.prog) W 22 24 a n c n' c' Try.underlying22
 cases A0 with
 | none =>
  have h0 : l0 = [] := by
   rcases Nat.eq_zero_or_pos l0.length with h0 | h0
   ·exact List.eq_nil_of_length_eq_zero h0
   ·obtain ⟨ad, he, _⟩ := hr0.2.2 h0
    cases he
  subst h0
  clear hr0 HR
  go_enter Try.func16, Try.ntmps16
  go_wp2
  go_ret
  exact ⟨_, rfl, Kd.R_nil _ _ _ _ _, Below.refl _ _⟩
 | some ad =>
  clear hr0
  go_enter Try.func16, Try.ntmps16
  go_wp2_with (at_builtin; refine Kd.R_append_rows k24 (w0 := w) w.heap.size rfl (.tmp 5) (.tmp 6) 22 24 (.agg #[(.string ⟨#[]⟩), (.string ⟨#[]⟩)]) 32 rfl Try.underlying22 info24 rfl (by decide) (by decide) (.slice (some ⟨w.heap.size, 0, none⟩) 0 0) [] l0 (some ad) l0.length c0 (fun _ => True) (fun _ => False) rfl rfl ?aO ?aR (fun _ _ h => h) (fun _ h => h.elim) (fun _ _ => trivial) ?aB ?aS ?aL ?_; (case aO => exact ⟨fun _ _ => trivial, [], World.ownsRow_made w #[] 0 (Nat.le_refl _) (Nat.zero_le _) (by simp), Reps.none _ _⟩); (case aR => exact Kd.C_alloc HR.out _); (case aB => exact (Below.refl _ w).alloc (Nat.le_refl _) _); (case aS => simp); (case aL => have := LM.out; simp; omega); intro v1 w1 ho hb hg hat; rw [List.nil_append] at ho; have n0_ := Aside0.mk ho; have n1_ := Aside0.mk hb; clear ho hb hg hat)
  go_ret
  exact ⟨_, rfl, n0_.out, n1_.out⟩

/-! ### dns_Fold: function 18 -/
def dns_Fold.b (c : UInt8) : UInt8 := if 65 ≤ c.toNat ∧ c.toNat ≤ 90 then UInt8.ofNat (c.toNat + 32) else c
def dns_Fold.f (a0 : ByteArray) : Option (ByteArray) := if a0.size ≤ 9223372036854775807 then some ⟨(a0.data.toList.map dns_Fold.b).toArray⟩ else none
/-- The octets as numbers, the first k of them folded. -/
def dns_Fold.at_ (s : ByteArray) (k j : Nat) : Int := if j < k then ((dns_Fold.b (s.data.toList.getD j 0)).toNat : Int) else ((s.data.toList.getD j 0).toNat : Int)
theorem dns_Fold.bits_or (c : Int) (h0 : 65 ≤ c) (h1 : c ≤ 90) : Go.bits .or .u8 c 32 = c + 32 := by
 have h : ∀ n : Fin 26, Go.bits .or .u8 (65 + (n.val : Int)) 32 = 97 + (n.val : Int) := by decide
 have := h ⟨(c - 65).toNat, by omega⟩
 simp only [Int.toNat_of_nonneg (show 0 ≤ c - 65 by omega)] at this
 rw [show (65 : Int) + (c - 65) = c by omega, show (97 : Int) + (c - 65) = c + 32 by omega] at this
 exact this
theorem dns_Fold.in_ (c : UInt8) (h0 : 65 ≤ c.toNat) (h1 : c.toNat ≤ 90) : ((dns_Fold.b c).toNat : Int) = (c.toNat : Int) + 32 := by
 unfold dns_Fold.b
 rw [if_pos ⟨h0, h1⟩, UInt8.toNat_ofNat']
 omega
theorem dns_Fold.out_ (c : UInt8) (h : ¬ (65 ≤ c.toNat ∧ c.toNat ≤ 90)) : dns_Fold.b c = c := by
 unfold dns_Fold.b
 rw [if_neg h]
theorem dns_Fold.frozen_ (w : World) (e : TypeId) (s : ByteArray) (j : Nat) (hj : j < s.size) : (Lib.bytesWorld w e s).frozen? ⟨w.heap.size, j, none⟩ = false := by
 have h := Lib.bytesWorld_at_new w e s
 have hl : s.size ≤ (Lib.bytesCells w e s).size := by
  have hd : s.data.size = s.size := rfl
  simp [Lib.bytesCells] <;> omega
 simp [World.frozen?, h]
 try omega
theorem dns_Fold.below_ (w : World) (e : TypeId) (s : ByteArray) : Below w.heap.size w (Lib.bytesWorld w e s) :=
 ⟨rfl, rfl, rfl, by rw [Lib.bytesWorld_size]; omega, fun i hi => Lib.bytesWorld_at_old w e s i hi⟩
set_option maxHeartbeats 8000000 in
set_option maxRecDepth 100000 in
theorem dns_Fold.calls (a0 : ByteArray) (r : ByteArray) (w : World) (h : dns_Fold.f a0 = some r) :
  Calls Try.prog 18 #[.string a0] w fun e w' => e = .returned (.string r) ∧ Below w.heap.size w w' := by
 have hmx : a0.size ≤ 9223372036854775807 := by
  by_cases hx : a0.size ≤ 9223372036854775807
  ·exact hx
  ·rw [dns_Fold.f, if_neg hx] at h; cases h
 rw [dns_Fold.f, if_pos hmx] at h
 have H := Aside0.mk h
 clear h
 have hcv := fun (W : World) => Lib.run_convert_string_bytes (P := Try.prog) W 9 44 5 a0 Try.underlying9 Try.underlying44 Try.underlying5
 have hsz : a0.data.toList.length = a0.size := data_length a0
 have HSZ := Aside0.mk hsz
 clear hsz
 go_enter Try.func18, Try.ntmps18
 go_wp2
 clear hcv
 have hc0 := am_ (fun j (hj : j < a0.size) => Lib.bytesWorld_cell w 5 a0 j hj)
 have hf0 := am_ (fun j (hj : j < a0.size) => dns_Fold.frozen_ w 5 a0 j hj)
 have hb0 := am_ (dns_Fold.below_ w 5 a0)
 generalize Lib.bytesWorld w 5 a0 = W1 at hc0 hf0 hb0 ⊢
 generalize grownCap w a0.size 0 5 = cp
 go_loopw [10] (fun i wr => ∃ k : Nat, k ≤ a0.size ∧ i = .int .i64 k ∧ Aside0 (Below w.heap.size w wr) ∧ Aside0 (∀ j, j < a0.size → wr.cell? ⟨w.heap.size, j, none⟩ = some (.int .u8 (dns_Fold.at_ a0 k j))) ∧ Aside0 (∀ j, j < a0.size → wr.frozen? ⟨w.heap.size, j, none⟩ = false)) (fun i _ => a0.size - (intOf i).toNat)
 case atStart => exact ⟨0, Nat.zero_le _, rfl, hb0, ⟨fun j hj => by rw [hc0.out j hj]; unfold dns_Fold.at_; rw [if_neg (by omega)]⟩, hf0⟩
 case round =>
  clear hb0 hc0 hf0
  obtain ⟨k, hk, rfl, hb, hc, hf⟩ := hrel
  by_cases hlt : k < a0.size
  ·have hck := hc.out k hlt
   have hfk := hf.out k hlt
   have hwb := hb.out.size
   have hat : dns_Fold.at_ a0 k k = ((a0.data.toList.getD k 0).toNat : Int) := by unfold dns_Fold.at_; rw [if_neg (by omega)]
   rw [hat] at hck
   clear hat
   have hn := (a0.data.toList.getD k 0).toNat_lt
   have hst : ∀ j, j ≠ k → dns_Fold.at_ a0 (k + 1) j = dns_Fold.at_ a0 k j := by
    intro j hj
    unfold dns_Fold.at_
    by_cases h1 : j < k
    ·rw [if_pos h1, if_pos (by omega)]
    ·rw [if_neg h1, if_neg (by omega)]
   have HST := Aside0.mk hst
   have hsk : dns_Fold.at_ a0 (k + 1) k = ((dns_Fold.b (a0.data.toList.getD k 0)).toNat : Int) := by unfold dns_Fold.at_; rw [if_pos (by omega)]
   have HSK := Aside0.mk hsk
   clear hst hsk
   have hltz : (k : Int) < (a0.size : Int) := by omega
   have HIN := am_ (dns_Fold.in_ (a0.data.toList.getD k 0))
   have HOUT := am_ (dns_Fold.out_ (a0.data.toList.getD k 0))
   generalize a0.data.toList.getD k 0 = c at hck hn HSK HIN HOUT
   by_cases h1 : 65 ≤ c.toNat
   ·have b1 : decide (65 ≤ (c.toNat : Int)) = true := decide_eq_true (by omega)
    by_cases h2 : c.toNat ≤ 90
    ·have b2 : decide ((c.toNat : Int) ≤ 90) = true := decide_eq_true (by omega)
     have hor := dns_Fold.bits_or (c.toNat : Int) (by omega) (by omega)
     rw [HIN.out h1 h2] at HSK
     clear HIN HOUT h1 h2
     go_wp2
     go_roundw
     case rel =>
      refine ⟨k + 1, by omega, by go_num, ⟨hb.out.setCell (p := ⟨w.heap.size, k, none⟩) (Nat.le_refl _) _⟩, ⟨fun j hj => ?_⟩, ⟨fun j hj => by rw [World.frozen?_setCell]; exact hf.out j hj⟩⟩
      by_cases hjk : j = k
      ·subst hjk
       rw [HSK.out]
       exact World.cell?_setCell_same _ _ _ (hc.out j hj)
      ·rw [HST.out j hjk, World.cell?_setCell_other _ _ _ _ (by intro h; injection h with _ h _; exact hjk h.symm)]
       exact hc.out j hj
     case measure => simp [intOf]; omega
    ·have b2 : decide ((c.toNat : Int) ≤ 90) = false := decide_eq_false (by omega)
     rw [HOUT.out (by omega)] at HSK
     clear HIN HOUT h1 h2
     go_wp2
     go_roundw
     case rel =>
      refine ⟨k + 1, by omega, by go_num, hb, ⟨fun j hj => ?_⟩, hf⟩
      by_cases hjk : j = k
      ·subst hjk
       rw [HSK.out]
       exact hck
      ·rw [HST.out j hjk]; exact hc.out j hj
     case measure => simp [intOf]; omega
   ·have b1 : decide (65 ≤ (c.toNat : Int)) = false := decide_eq_false (by omega)
    rw [HOUT.out (by omega)] at HSK
    clear HIN HOUT h1
    go_wp2
    go_roundw
    case rel =>
     refine ⟨k + 1, by omega, by go_num, hb, ⟨fun j hj => ?_⟩, hf⟩
     by_cases hjk : j = k
     ·subst hjk
      rw [HSK.out]
      exact hck
     ·rw [HST.out j hjk]; exact hc.out j hj
    case measure => simp [intOf]; omega
  ·have hge : decide ((k : Int) < (a0.size : Int)) = false := decide_eq_false (by omega)
   obtain rfl : k = a0.size := by omega
   have hcv := fun dst hd => run_convert_bytes_arg (P := Try.prog) wr 44 5 Try.underlying44 Try.underlying5 w.heap.size 0 a0.size cp (a0.data.toList.map fun b => ((dns_Fold.b b).toNat : Int)) (by rw [List.length_map]; exact HSZ.out) (fun i hi => by
    rw [Nat.zero_add, hc.out i hi]
    unfold dns_Fold.at_
    rw [if_pos hi]
    have hl : i < a0.data.toList.length := by rw [HSZ.out]; exact hi
    simp [List.getD, List.getElem?_eq_getElem hl]) dst hd
   have hcv2 := hcv 9 Try.underlying9
   clear hcv
   have hr : r = strOfNums (a0.data.toList.map fun b => ((dns_Fold.b b).toNat : Int)) := by
    have h := Option.some.inj H.out
    rw [← h]
    unfold strOfNums
    congr 2
    rw [List.map_map]
    refine List.map_congr_left fun b _ => ?_
    simp
   have HR := Aside0.mk hr
   clear hr H
   generalize strOfNums (a0.data.toList.map fun b => ((dns_Fold.b b).toNat : Int)) = rr at hcv2 HR
   obtain rfl := HR.out
   clear HR
   go_wp2
   go_ret
   exact ⟨rfl, hb.out⟩

/-! ### pairs_Same: function 8 -/
def pairs_Same.f (a0 : ByteArray) (a1 : ByteArray) : Option (Bool) := (dns_Fold.f a0).bind fun t108 => ((dns_Fold.f a1).bind fun t109 => (some (t108.toList == t109.toList)))
set_option maxHeartbeats 8000000 in
set_option maxRecDepth 100000 in
theorem pairs_Same.calls (a0 : ByteArray) (a1 : ByteArray) (r : Bool) (w : World) (h : pairs_Same.f a0 a1 = some r) :
  Calls Try.prog 8 #[.string a0, .string a1] w fun e w' => e = .returned (.bool r) ∧ Below w.heap.size w w' := by
 have HB := am_ (Below.refl w.heap.size w)
 have H : ((dns_Fold.f a0).bind fun t108 => ((dns_Fold.f a1).bind fun t109 => (some (t108.toList == t109.toList)))) = some r := h
 clear h
 replace H := Option.bind_eq_some_iff.mp H
 obtain ⟨t108, A30, H⟩ := H
 replace H : ((dns_Fold.f a1).bind fun t109 => (some (t108.toList == t109.toList))) = some r := H
 have A3 := Aside0.mk A30
 clear A30
 replace H := Option.bind_eq_some_iff.mp H
 obtain ⟨t109, A40, H⟩ := H
 replace H : (some (t108.toList == t109.toList)) = some r := H
 have A4 := Aside0.mk A40
 clear A40
 obtain rfl := Option.some.inj H
 go_enter Try.func8, Try.ntmps8
 go_wp2_with (first | ((with_reducible refine gate_callee (f := 18) rfl ?_); refine goesL_ (some 6) rfl rfl Try.func18 kr_ rfl #[.string a0] rfl rl_ ?_; (with_reducible refine (dns_Fold.calls a0 t108 _ A3.out).mono ?_); rintro e w5 ⟨rfl, hb⟩; refine ⟨_, rfl, ?_⟩; have n0_ := am_ (below_step (bel_ HB.out) hb); clear HB; have HB := n0_; clear n0_; (try clear hb); (try clear hb2); (try clear hk); (try clear hi)) | ((with_reducible refine gate_callee (f := 18) rfl ?_); refine goesL_ (some 8) rfl rfl Try.func18 kr_ rfl #[.string a1] rfl rl_ ?_; (with_reducible refine (dns_Fold.calls a1 t109 _ A4.out).mono ?_); rintro e w6 ⟨rfl, hb⟩; refine ⟨_, rfl, ?_⟩; have n0_ := am_ (below_step (bel_ HB.out) hb); clear HB; have HB := n0_; clear n0_; (try clear hb); (try clear hb2); (try clear hk); (try clear hi)))
 go_ret
 exact ⟨fi_, bel_ HB.out⟩

/-! ### pairs_finder: function 12 -/
/-- A function value that tells whether two texts are the same. -/
def SameAt (P : Program) (g : Nat) (q : ByteArray → ByteArray → Option Bool) : Prop :=
 ∀ (W : World) (a b : ByteArray) (r : Bool), q a b = some r → Calls P g #[.string a, .string b] W fun e w' => e = .returned (.bool r) ∧ Below W.heap.size W w'
def pOf (q : ByteArray → ByteArray → Option Bool) (name : ByteArray) (x : S24) : Bool := q x.f0 name == some true
def qAll (q : ByteArray → ByteArray → Option Bool) (l : List (S24)) (name : ByteArray) : Bool := l.all fun x => (q x.f0 name).isSome
def getI (q : ByteArray → ByteArray → Option Bool) (l : List (S24)) (name : ByteArray) : ByteArray × Bool := if idxI (pOf q name) l < 0 then ((⟨#[]⟩ : ByteArray), false) else ((rd_T24 l (idxI (pOf q name) l)).f1, true)
theorem idxI_lt {α : Type} (p : α → Bool) (l : List α) : idxI p l < l.length := by
 unfold idxI
 by_cases h : l.any p = true
 ·rw [if_pos h]
  have := List.findIdx_lt_length_of_exists (p := p) (xs := l) (by obtain ⟨x, hx, hp⟩ := List.any_eq_true.1 h; exact ⟨x, hx, hp⟩)
  omega
 ·rw [if_neg h]; omega
theorem same_at : SameAt Try.prog 8 pairs_Same.f := fun W a b r h => pairs_Same.calls a b r W h
set_option maxHeartbeats 8000000 in
set_option maxRecDepth 100000 in
theorem first1.pred (g : Nat) (q : ByteArray → ByteArray → Option Bool) (hs : SameAt Try.prog g q) (eg : ∀ args W, (callFunc g args).run Try.prog W = .ok (.enter g args) W) (fb nb : Nat) (name : ByteArray) (w : World) (l : List (S24))
  (hfb : fb < w.heap.size) (hnb : nb < w.heap.size) (hf : w.cell? ⟨fb, 0, none⟩ = some (.func (.func g) #[] #[])) (hn : w.cell? ⟨nb, 0, none⟩ = some (.string name)) (hq : qAll q l name = true) :
  PredK Try.prog 22 #[.pointer (some ⟨fb, 0, none⟩), .pointer (some ⟨nb, 0, none⟩)] k24 l (pOf q name) w := by
 intro W x cs hx hb hk
 obtain rfl := k24_open hk
 have hqx : q x.f0 name = some (pOf q name x) := by
  have := List.all_eq_true.1 hq x hx
  unfold pOf
  cases h : q x.f0 name with
  | none => rw [h] at this; cases this
  | some b => cases b <;> rfl
 have HQ := Aside0.mk hqx
 have HS := Aside0.mk hs
 have hf' : W.cell? ⟨fb, 0, none⟩ = some (.func (.func g) #[] #[]) := (hb.cell (p := ⟨fb, 0, none⟩) hfb).trans hf
 have hn' : W.cell? ⟨nb, 0, none⟩ = some (.string name) := (hb.cell (p := ⟨nb, 0, none⟩) hnb).trans hn
 have hf1 : fb ≠ W.heap.size := by have := hb.size; omega
 have hn1 : nb ≠ W.heap.size := by have := hb.size; omega
 have hfl : fb < W.heap.size := by have := hb.size; omega
 have hnl : nb < W.heap.size := by have := hb.size; omega
 have HB := Aside0.mk hb
 clear hqx hs hx hb hk hq hf hn hfb hnb
 show Calls Try.prog 22 #[.agg #[.string x.f0, .string x.f1], .pointer (some ⟨fb, 0, none⟩), .pointer (some ⟨nb, 0, none⟩)] W _
 generalize pOf q name x = b at HQ
 go_enter Try.func22, Try.ntmps22
 go_wp2_with (go_at_fn g; refine (HS.out _ x.f0 name b HQ.out).mono ?_; rintro e w' ⟨rfl, hb'⟩; have HB' := Aside0.mk hb'; clear hb')
 go_ret
 exact ⟨rfl, (HB.out.alloc HB.out.size _).trans (HB'.out.mono (by have := HB.out.size; simp; omega))⟩
set_option maxHeartbeats 8000000 in
set_option maxRecDepth 100000 in
theorem finder_first.calls (g : Nat) (q : ByteArray → ByteArray → Option Bool) (hs : SameAt Try.prog g q) (eg : ∀ args W, (callFunc g args).run Try.prog W = .ok (.enter g args) W) (A0 : Option Addr) (c0 : Nat) (l0 : List (S24)) (name : ByteArray) (w : World)
  (hr0 : Kd.C k24 w A0 l0.length l0) (hq : qAll q l0 name = true) :
  Calls Try.prog 12 #[.agg #[.func (.func g) #[] #[]], .slice A0 l0.length c0, .string name] w fun e w' => e = .returned (.int .i64 (idxI (pOf q name) l0)) ∧ Below w.heap.size w w' := by
 have eg1 : ∀ args W, (callFunc 22 args).run Try.prog W = .ok (.enter 22 args) W := enters_of Try.func22 kr_ rfl
 have EG1 := Aside0.mk eg1
 have HR := Aside0.mk hr0
 have HS := Aside0.mk hs
 have EG := Aside0.mk eg
 have HQ := Aside0.mk hq
 clear eg1 hr0 hs eg hq
 go_enter Try.func12, Try.ntmps12
 go_wp2_with (go_at_call 21; refine (api_Pair_21.calls A0 c0 l0 _ (by exact Kd.C_alloc (Kd.C_alloc HR.out _) _) (pOf q name) 22 _ EG1.out (by exact first1.pred g q HS.out EG.out w.heap.size (w.heap.size + 1) name _ l0 (by simp; omega) (by simp) (by simp [World.cell?_alloc_lt, World.cell?_alloc_new]) (by simp [World.cell?_alloc_new]) HQ.out)).mono ?_; rintro e w' ⟨rfl, hb'⟩; have HB' := Aside0.mk hb'; clear hb')
 go_ret
 exact ⟨rfl, (((Below.refl _ w).alloc (Nat.le_refl _) _).alloc (by simp) _).trans (HB'.out.mono (by simp; omega))⟩
set_option maxHeartbeats 8000000 in
set_option maxRecDepth 100000 in
theorem finder_get.calls (g : Nat) (q : ByteArray → ByteArray → Option Bool) (hs : SameAt Try.prog g q) (eg : ∀ args W, (callFunc g args).run Try.prog W = .ok (.enter g args) W) (A0 : Option Addr) (c0 : Nat) (l0 : List (S24)) (name : ByteArray) (w : World)
  (hr0 : Kd.C k24 w A0 l0.length l0) (hq : qAll q l0 name = true) :
  Calls Try.prog 20 #[.agg #[.func (.func g) #[] #[]], .slice A0 l0.length c0, .string name] w fun e w' => e = .returned (.tuple #[.string (getI q l0 name).1, .bool (getI q l0 name).2]) ∧ Below w.heap.size w w' := by
 have HR := Aside0.mk hr0
 have HS := Aside0.mk hs
 have EG := Aside0.mk eg
 have HQ := Aside0.mk hq
 have hlt := idxI_lt (pOf q name) l0
 clear hr0 hs eg hq
 unfold getI
 generalize hix : idxI (pOf q name) l0 = ix at hlt ⊢
 have HIX := Aside0.mk hix
 clear hix
 have hfs := fun W (hW : Kd.C k24 W A0 l0.length l0) => finder_first.calls g q HS.out EG.out A0 c0 l0 name W hW HQ.out
 rw [HIX.out] at hfs
 have HFS := Aside0.mk hfs
 clear hfs
 by_cases h0 : ix < 0
 ·rw [if_pos h0]
  have h0b : decide (ix < 0) = true := decide_eq_true h0
  clear h0 hlt
  go_enter Try.func20, Try.ntmps20
  go_wp2_with (go_at_call 12; refine (HFS.out _ (by exact Kd.C_alloc HR.out _)).mono ?_; rintro e w' ⟨rfl, hb'⟩; have HB' := Aside0.mk hb'; clear hb')
  go_ret2
  exact ⟨rfl, ((Below.refl _ w).alloc (Nat.le_refl _) _).trans (HB'.out.mono (by simp))⟩
 ·rw [if_neg h0]
  have h0b : decide (ix < 0) = false := decide_eq_false h0
  have h0p : 0 ≤ ix := by omega
  obtain ⟨ad, ea, hx_0, hx_1⟩ := at_T24 HR.out ix h0p hlt
  cases ea
  have hl0 := And.intro (World.block_lt_of_cell? w _ hx_0) (World.block_lt_of_cell? w _ hx_1)
  generalize hy : rd_T24 l0 ix = y at *
  clear hy
  have h0q := eq_true h0p
  have h1q := eq_true hlt
  have HZ := Aside0.mk hl0
  clear hl0 h0 h0p hlt
  go_enter Try.func20, Try.ntmps20
  go_wp2_with (go_at_call 12; refine (HFS.out _ (by exact Kd.C_alloc HR.out _)).mono ?_; rintro e w' ⟨rfl, hb'⟩; have hz_1 := (hb'.cell (p := _) (Nat.lt_of_lt_of_le HZ.out.2 (by simp))).trans ((((Below.refl _ w).alloc (Nat.le_refl _) _).cell HZ.out.2).trans hx_1); have HB' := Aside0.mk hb'; clear hb')
  go_ret2
  exact ⟨rfl, ((Below.refl _ w).alloc (Nat.le_refl _) _).trans (HB'.out.mono (by simp))⟩

/-! ### pairs_Drop: function 7 -/
set_option maxHeartbeats 8000000 in
set_option maxRecDepth 100000 in
theorem drop1_at (nb : Nat) (name : ByteArray) (W : World) (x : S24) (b : Bool) (hn : W.cell? ⟨nb, 0, none⟩ = some (.string name)) (hnl : nb < W.heap.size) (hq : pairs_Same.f x.f0 name = some b) :
  Calls Try.prog 17 #[.agg #[.string x.f0, .string x.f1], .pointer (some ⟨nb, 0, none⟩)] W fun e w' => e = .returned (.bool b) ∧ Below W.heap.size W w' := by
 have HQ := Aside0.mk hq
 have hn1 : nb ≠ W.heap.size := by omega
 clear hq
 go_enter Try.func17, Try.ntmps17
 go_wp2_with (go_at_call 8; refine (pairs_Same.calls x.f0 name b _ HQ.out).mono ?_; rintro e w' ⟨rfl, hb'⟩; have HB' := Aside0.mk hb'; clear hb')
 go_ret
 exact ⟨rfl, ((Below.refl _ W).alloc (Nat.le_refl _) _).trans (HB'.out.mono (by simp))⟩
def pairs_Drop.f (l0 : List (S24)) (a1 : ByteArray) : Option (List (S24)) := if qAll pairs_Same.f l0 a1 = true ∧ l0.length * 32 ≤ 140737488355328 then some (l0.filter fun x => !pOf pairs_Same.f a1 x) else none
set_option maxHeartbeats 8000000 in
set_option maxRecDepth 100000 in
/-- Dropped in a row of its own; its room is no less than what there was. -/
theorem drop_at (A0 : Option Addr) (c0 : Nat) (l0 : List (S24)) (a1 : ByteArray) (r : List (S24)) (w : World) (hr0 : Kd.C k24 w A0 l0.length l0) (hc0 : l0.length ≤ c0) (h : pairs_Drop.f l0 a1 = some r) :
  Calls Try.prog 7 #[.slice A0 l0.length c0, .string a1] w fun e w' => ∃ v0_ : Value, e = .returned (v0_) ∧ (Kd.R k24 24 w' w.heap.size (fun _ => True) v0_ r ∧ ((∃ x ∈ l0, pOf pairs_Same.f a1 x = true) → ∃ g1 c, v0_ = .slice (some ⟨g1, 0, none⟩) r.length c ∧ l0.length ≤ c)) ∧ Below w.heap.size w w' := by
 obtain ⟨hq, hl⟩ : qAll pairs_Same.f l0 a1 = true ∧ l0.length * 32 ≤ 140737488355328 := by
  by_cases hx : qAll pairs_Same.f l0 a1 = true ∧ l0.length * 32 ≤ 140737488355328
  ·exact hx
  ·rw [pairs_Drop.f, if_neg hx] at h; cases h
 rw [pairs_Drop.f, if_pos ⟨hq, hl⟩] at h
 obtain rfl := Option.some.inj h
 clear h
 have eg : ∀ args W, (callFunc 17 args).run Try.prog W = .ok (.enter 17 args) W := enters_of Try.func17 kr_ rfl
 have hcl := fun (W : World) (hW : Kd.C k24 W A0 l0.length l0) => api_Pair_16.calls A0 c0 l0 l0 W hW hc0 (by rw [api_Pair_16.f, if_pos hl])
 have HCL := Aside0.mk hcl
 have HR := Aside0.mk hr0
 have HQ := Aside0.mk hq
 have EG := Aside0.mk eg
 clear hcl hr0 hq hl eg hc0
 go_enter Try.func7, Try.ntmps7
 go_wp2_with (first | (go_at_call 16; refine (HCL.out _ (by exact Kd.C_alloc HR.out _)).mono ?_; rintro e w2 ⟨v0, rfl, hR, hb⟩; have HV := Aside0.mk hR; have HB := Aside0.mk hb; clear hR hb) | (go_at_call 15; refine (api_Pair_15.calls _ v0 l0 w2 HV.out (pOf pairs_Same.f a1) 17 _ EG.out (fun W x hx hg => by (have hne : v0.ownBlock ≠ some w.heap.size := fun e => (by have := own_base (Kd.R_own HV.out).choose_spec _ e; simp at this; omega)); have hcell : W.cell? ⟨w.heap.size, 0, none⟩ = some (.string a1) := hg.cell ((HB.out.cell (p := ⟨w.heap.size, 0, none⟩) (by simp)).trans (by simp [World.cell?_alloc_new])) (fun e => hne e.symm); exact drop1_at w.heap.size a1 W x _ hcell (by have := hg.size; have := HB.out.size; simp at this; omega) (by have := List.all_eq_true.1 HQ.out x hx; unfold pOf; (cases h : pairs_Same.f x.f0 a1 with | none => (rw [h] at this; cases this) | some b => cases b <;> rfl)))).mono ?_; rintro e w3 ⟨v1, rfl, hR, hg, hcap⟩; have HG := Aside0.mk hg; have HV1 := Aside0.mk hR; have HCP := Aside0.mk hcap; clear hR hg hcap))
 go_ret
 have hB3 : Below w.heap.size w w3 := (((Below.refl _ w).alloc (Nat.le_refl _) _).trans (HB.out.mono (by simp))).trans (gb_out HG.out (by have := HB.out.size; simp at this; omega) (fun k hk => (by have := own_base (Kd.R_own HV.out).choose_spec _ hk; simp at this; omega)))
 refine ⟨_, rfl, ⟨Kd.R_lower HV1.out (by simp), fun hx => ?_⟩, hB3⟩
 obtain ⟨g1, c, e0, e1⟩ := HCP.out hx
 obtain ⟨A, c', e', hl', _⟩ := Kd.R_reads HV.out
 rw [e0] at e'
 injection e' with _ _ e'
 exact ⟨g1, c, e1, by rw [e']; exact hl'⟩
theorem pairs_Drop.calls (A0 : Option Addr) (c0 : Nat) (l0 : List (S24)) (a1 : ByteArray) (r : List (S24)) (w : World) (hr0 : Kd.C k24 w A0 l0.length l0) (hc0 : l0.length ≤ c0) (h : pairs_Drop.f l0 a1 = some r) :
  Calls Try.prog 7 #[.slice A0 l0.length c0, .string a1] w fun e w' => ∃ v0_ : Value, e = .returned (v0_) ∧ Kd.R k24 24 w' w.heap.size (fun _ => True) v0_ r ∧ Below w.heap.size w w' :=
 (drop_at A0 c0 l0 a1 r w hr0 hc0 h).mono fun _ _ ⟨v, e, h1, h2⟩ => ⟨v, e, h1.1, h2⟩

/-! ### pairs_Add: function 13 -/
def pairs_Add.f (l0 : List (S24)) (a1 : ByteArray) (a2 : ByteArray) : Option ((List (S24))) := (api_Pair_16.f l0).bind fun t110 => (if t110.length < 4398046511104 then (some (t110 ++ [(⟨a1, a2⟩ : S24)])) else (none))
set_option maxHeartbeats 8000000 in
set_option maxRecDepth 100000 in
theorem pairs_Add.calls (A0 : Option Addr) (c0 : Nat) (l0 : List (S24)) (a1 : ByteArray) (a2 : ByteArray) (r : List (S24)) (w : World) (hr0 : Kd.C k24 w A0 l0.length l0) (hc0 : l0.length ≤ c0) (h : pairs_Add.f l0 a1 a2 = some r) :
  Calls Try.prog 13 #[.slice A0 l0.length c0, .string a1, .string a2] w fun e w' => ∃ v0_ : Value, e = .returned (v0_) ∧ Kd.R k24 24 w' w.heap.size (fun _ => True) v0_ r ∧ Below w.heap.size w w' := by
 have hu24 := Try.underlying24
 have HR0 := Aside0.mk hr0
 have HC0 := Aside0.mk hc0
 clear hr0 hc0
 have HB := am_ (Below.refl w.heap.size w)
 have H : ((api_Pair_16.f l0).bind fun t110 => (if t110.length < 4398046511104 then (some (t110 ++ [(⟨a1, a2⟩ : S24)])) else (none))) = some r := h
 clear h
 replace H := Option.bind_eq_some_iff.mp H
 obtain ⟨t110, A40, H⟩ := H
 replace H : (if t110.length < 4398046511104 then (some (t110 ++ [(⟨a1, a2⟩ : S24)])) else (none)) = some r := H
 have A4 := Aside0.mk A40
 clear A40
 by_cases c5 : t110.length < 4398046511104
 ·rw [if_pos c5] at H
  have LMc5 := Aside0.mk c5
  clear c5
  obtain ⟨y113, hy113⟩ : ∃ y_ : List (S24), y_ = (t110 ++ [(⟨a1, a2⟩ : S24)]) := ⟨_, rfl⟩
  replace H : (some y113) = some r := by first | (rw [hy113]; with_reducible exact H) | (have H2_ := (Option.bind_some _ _).symm.trans H; rw [hy113]; with_reducible exact H2_) | (have H2_ := (Option.bind_some _ _).symm.trans H; with_reducible exact H2_) | with_reducible exact H | (rw [hy113]; exact H) | exact H
  have Ny113 := Aside0.mk hy113
  clear hy113
  obtain rfl := Option.some.inj H
  go_enter Try.func13, Try.ntmps13
  go_wp2_with (first | ((with_reducible refine gate_callee (f := 16) rfl ?_); refine goesL_ (some 8) rfl rfl Try.func16 kr_ rfl #[.slice A0 l0.length c0] rfl rl_ ?_; (with_reducible refine (api_Pair_16.calls _ _ l0 t110 _ ?side1 ?side2 A4.out).mono ?_); (case side1 => exact C_ HR0.out); (case side2 => exact HC0.out); rintro e w6 ⟨v111, rfl, ho0, hb⟩; refine ⟨_, rfl, ?_⟩; have n0_ := am_ (Kd.R_lower ho0 (below_size (bel_ HB.out))); have n1_ := am_ (below_step (bel_ HB.out) hb); clear HB; have HO112 := n0_; have HB := n1_; clear n0_ n1_; (try clear hb); (try clear hb2); (try clear hk); (try clear hi); (try clear ho0)) | ((with_reducible refine gate_builtin (b := .append) (xs := #[.tmp 8, .tmp 12]) rfl ?_); at_builtin; refine Kd.R_append k24 (w0 := w) w.heap.size rfl (.tmp 8) (.tmp 12) 22 24 (.agg #[(.string ⟨#[]⟩), (.string ⟨#[]⟩)]) 32 rfl Try.underlying22 info24 rfl (by decide) (by omega) v111 t110 (⟨a1, a2⟩ : S24) [.string a1, .string a2] (fun _ => True) (fun _ => False) rfl rfl ?aP (fun _ hk => hk.elim) ?aF ?aO ?aB ?aS ?aL ?_; (case aP => exact k24_mkM _ _ _ (⟨a1, a2⟩ : S24)); (case aB => exact (bel_ HB.out)); (case aF => exact (fun _ _ => trivial)); (case aO => exact (R_ HO112.out)); (case aS => exact (below_size (bel_ HB.out))); (case aL => have := LMc5.out; omega); intro v114 w7 ho hb hg hat; rw [← Ny113.out] at ho; have n0_ := am_ (hb); have n1_ := am_ (ho); clear HB HO112; have HB := n0_; have HO115 := n1_; clear n0_ n1_ ho hb hg hat))
  go_ret
  exact ⟨_, by first | rfl | (simp [errW_none, errW_some] <;> rfl) | (simp [*, errW_none, errW_some] <;> rfl), by (with_reducible repeat (first | apply Kd.R_alloc | apply Kd.R_drewN | apply Kd.R_drew)); exact HO115.out, bel_ HB.out⟩
 ·rw [if_neg c5] at H
  exact absurd H (by simp)

/-! ### api_Pair_14: function 14 -/
/-- Cells copied into a row of cells: elements of any number of cells. -/
theorem run_copy_cells2 {P : Program} (w : World) (dT sT ty elem sz : Nat) (g o dLen dCap : Nat) (a : Addr) (sLen sCap : Nat) (cur : Array Value) (t : TypeId) (cs : List Value)
  (hu : P.underlying dT = some (.slice elem)) (hs : (P.info? elem).map (·.size) = some sz)
  (hg : w.heap[g]? = some (.cells cur t (0, 0))) (hn : cs.length = Nat.min sLen dLen * sz)
  (hsrc : ∀ j v, cs[j]? = some v → w.cell? (a.add j) = some v) (hfit : o + cs.length ≤ cur.size) (h1 : ∀ v ∈ cs, v.oneCell' = true) :
  (Builtin.copy_ #[dT, sT] ty #[.slice (some ⟨g, o, none⟩) dLen dCap, .slice (some a) sLen sCap]).run P w =
   .ok (goInt (Nat.min sLen dLen)) (w.setRow g (cur.toList.take o ++ cs ++ cur.toList.drop (o + cs.length)).toArray) := by
 have hl := run_loadCells_list (P := P) w a cs hsrc
 have hst := run_storeCells_at P g o t cs 0 cur w hg (by simpa using hfit) h1
 cases hq : P.info? elem with
 | none => simp [hq] at hs
 | some i =>
  have hi : i.size = sz := by simpa [hq] using hs
  simp [Builtin.copy_, run_underlying hu, Builtin.lenOf, Builtin.firstCells, sizeOf, typeInfo, hq, hi, ← hn, hl, hst]
theorem cells2_one {l : List S24} {cur : Array Value} (hc : ∀ j (hj : j < l.length), cur[j * 2]? = some (.string (l[j]'hj).f0) ∧ cur[j * 2 + 1]? = some (.string (l[j]'hj).f1)) (k : Nat) (hk : k < l.length * 2) (v : Value) (h : cur[k]? = some v) : v.oneCell' = true := by
 rcases Nat.mod_two_eq_zero_or_one k with e | e
 ·have := (hc (k / 2) (by omega)).1
  rw [show k / 2 * 2 = k by omega, h] at this
  cases this; rfl
 ·have := (hc (k / 2) (by omega)).2
  rw [show k / 2 * 2 + 1 = k by omega, h] at this
  cases this; rfl
theorem sizeE : (Try.prog.info? 24).map (·.size) = some 2 := by
 have := info24
 cases hq : Try.prog.info? 24 with
 | none => rw [hq] at this; cases this
 | some i =>
  rw [hq] at this
  simp only [Option.map_some, Option.some.injEq, Prod.mk.injEq] at this
  simp [this.2.1]
theorem run_sizeE (W : World) : (sizeOf 24).run Try.prog W = .ok 2 W := by
 have := sizeE
 cases hq : Try.prog.info? 24 with
 | none => rw [hq] at this; cases this
 | some i0 =>
  rw [hq] at this
  simp only [Option.map_some, Option.some.injEq] at this
  simp [sizeOf, typeInfo, hq, this]
theorem Row2.shift {w : World} {g c : Nat} {l : List S24} (h : Row2 w g c l) (i : Nat) (hi : i < l.length) (hroom : l.length + 1 ≤ c) :
  ∃ w1, (∀ ty dc sc, (Builtin.copy_ #[22, 22] ty #[.slice (some ⟨g, (i + 1) * 2, none⟩) (l.length - i) dc, .slice (some ⟨g, i * 2, none⟩) (l.length + 1 - i) sc]).run Try.prog w = .ok (goInt ((l.length - i : Nat) : Int)) w1) ∧ Row2 w1 g c (l.take (i + 1) ++ l.drop i) ∧ w.grownBy w1 (some g) := by
 obtain ⟨cur, hh, hs, hl, hc⟩ := h
 have hm : Nat.min (l.length + 1 - i) (l.length - i) = l.length - i := by simp only [Nat.min_def]; split <;> omega
 generalize hcs : (cur.toList.drop (i * 2)).take ((l.length - i) * 2) = cs
 have hcl : cs.length = (l.length - i) * 2 := by rw [← hcs]; simp only [List.length_take, List.length_drop, Array.length_toList]; omega
 have hce : ∀ k, k < (l.length - i) * 2 → cs[k]? = cur[i * 2 + k]? := fun k hk => by
  rw [← hcs, List.getElem?_take, if_pos hk, List.getElem?_drop, Array.getElem?_toList]
 refine ⟨w.setRow g (cur.toList.take ((i + 1) * 2) ++ cs ++ cur.toList.drop ((i + 1) * 2 + cs.length)).toArray, fun ty dc sc => ?_, ⟨_, setRow_heap w g cur _ 24 _ hh, ?_, ?_, fun j hj => ?_⟩, rfl, rfl, rfl, by simp [World.setRow], fun k _ hk => by simp [World.setRow, Array.getElem?_modify, show ¬ g = k from fun e => hk (by rw [e])]⟩
 ·have := run_copy_cells2 (P := Try.prog) w 22 22 ty 24 2 g ((i + 1) * 2) (l.length - i) dc ⟨g, i * 2, none⟩ (l.length + 1 - i) sc cur 24 cs Try.underlying22 sizeE hh (by rw [hm, hcl]) (fun j v hj => by
   have hjl : j < (l.length - i) * 2 := by rw [← hcl]; exact (List.getElem?_eq_some_iff.1 hj).1
   rw [Addr.add_lit, blk_cell hh, ← hce j hjl]; exact hj) (by rw [hcl]; omega) (fun v hv => by
   obtain ⟨j, hj⟩ := List.getElem?_of_mem hv
   have hjl : j < (l.length - i) * 2 := by rw [← hcl]; exact (List.getElem?_eq_some_iff.1 hj).1
   rw [hce j hjl] at hj
   exact cells2_one hc _ (by omega) v hj)
  rw [this, hm]
 ·simp only [List.size_toArray, List.length_append, List.length_take, List.length_drop, Array.length_toList, hcl]; omega
 ·rw [List.length_append, List.length_take, List.length_drop]; omega
 ·have hjl : j < l.length + 1 := by rw [List.length_append, List.length_take, List.length_drop] at hj; omega
  simp only [List.getElem?_toArray]
  have ht : (cur.toList.take ((i + 1) * 2)).length = (i + 1) * 2 := by rw [List.length_take, Array.length_toList]; omega
  have htl : (l.take (i + 1)).length = i + 1 := by rw [List.length_take]; omega
  have hA : ∀ k, k < (i + 1) * 2 → (cur.toList.take ((i + 1) * 2) ++ cs ++ cur.toList.drop ((i + 1) * 2 + cs.length))[k]? = cur[k]? := fun k hk => by
   rw [List.append_assoc, List.getElem?_append_left (by rw [ht]; exact hk), List.getElem?_take, if_pos hk, Array.getElem?_toList]
  have hB : ∀ k, k < (l.length - i) * 2 → (cur.toList.take ((i + 1) * 2) ++ cs ++ cur.toList.drop ((i + 1) * 2 + cs.length))[(i + 1) * 2 + k]? = cur[i * 2 + k]? := fun k hk => by
   rw [List.append_assoc, List.getElem?_append_right (by rw [ht]; omega), ht, List.getElem?_append_left (by rw [hcl]; omega), show (i + 1) * 2 + k - (i + 1) * 2 = k by omega, hce k hk]
  by_cases e : j < i + 1
  ·rw [hA _ (by omega), hA _ (by omega), List.getElem_append_left (by rw [htl]; exact e), List.getElem_take]
   exact hc j (by omega)
  ·have h1 := hB ((j - (i + 1)) * 2) (by omega)
   have h2 := hB ((j - (i + 1)) * 2 + 1) (by omega)
   rw [show (i + 1) * 2 + (j - (i + 1)) * 2 = j * 2 by omega, show i * 2 + (j - (i + 1)) * 2 = (j - 1) * 2 by omega] at h1
   rw [show (i + 1) * 2 + ((j - (i + 1)) * 2 + 1) = j * 2 + 1 by omega, show i * 2 + ((j - (i + 1)) * 2 + 1) = (j - 1) * 2 + 1 by omega] at h2
   have hg : (l.take (i + 1) ++ l.drop i)[j]'hj = l[j - 1]'(by omega) := by
    rw [List.getElem_append_right (by rw [htl]; omega), List.getElem_drop]
    congr 1
    rw [htl]; omega
   rw [h1, h2, hg]
   exact hc (j - 1) (by omega)
theorem Row2.copy1 {w : World} {g c : Nat} {l : List S24} (h : Row2 w g c l) (i : Nat) (hi : i < l.length) (vb : Nat) (x : S24) (hv : w.heap[vb]? = some (.cells #[.string x.f0, .string x.f1] 24 (0, 0))) :
  (∀ ty dl dc vc, 0 < dl → (Builtin.copy_ #[22, 22] ty #[.slice (some ⟨g, i * 2, none⟩) dl dc, .slice (some ⟨vb, 0, none⟩) 1 vc]).run Try.prog w = .ok (goInt 1) ((w.setCell ⟨g, i * 2, none⟩ (.string x.f0)).setCell ⟨g, i * 2 + 1, none⟩ (.string x.f1))) := by
 have h' := h
 obtain ⟨cur, hh, hs, hl, hc⟩ := h
 intro ty dl dc vc hdl
 have hm : Nat.min 1 dl = 1 := by simp only [Nat.min_def]; split <;> omega
 have hl0 : (loadCells ⟨vb, 0, none⟩ 2).run Try.prog w = .ok #[.string x.f0, .string x.f1] w :=
  run_loadCells_list (P := Try.prog) w ⟨vb, 0, none⟩ [.string x.f0, .string x.f1] (fun j v hj => by rw [Addr.add_lit, Nat.zero_add, blk_cell hv]; simpa using hj)
 have hq : ∃ i0, Try.prog.info? 24 = some i0 ∧ i0.size = 2 := by
  have := sizeE
  cases hq : Try.prog.info? 24 with
  | none => rw [hq] at this; cases this
  | some i0 => rw [hq] at this; exact ⟨i0, rfl, by simpa using this⟩
 obtain ⟨i0, hq, hi0⟩ := hq
 have h1 : ∀ v ∈ [Value.string x.f0, Value.string x.f1], v.oneCell' = true := fun v hv => by
  simp only [List.mem_cons, List.not_mem_nil, or_false] at hv
  cases hv with
  | inl e => rw [e]; rfl
  | inr e => rw [e]; rfl
 have hst := run_storeCells_cells (P := Try.prog) g (i * 2) [.string x.f0, .string x.f1] 0 w (fun j hj => h'.room _ (by simp at hj; omega)) (fun j hj => h'.frozen _) h1
 simp only [Nat.add_zero, World.setCells] at hst
 simp [Builtin.copy_, run_underlying Try.underlying22, Builtin.lenOf, Builtin.firstCells, sizeOf, typeInfo, hq, hi0, hm, hl0, hst]
/-- THE OPERATION 'copy(d, s)' where its run is known by an equation. -/
theorem wp_copy_run2 {P : Program} (w : World) {ops : Array Oper} {rest : List Oper} {o : Oper} {a : Act} {Q : Exit → Act → World → Prop} (hgd : o.guard = none) (d s : Operand) (t t' : TypeId)
  (ho : o.op = .call { callee := .builtin .copy, args := #[d, s], argTypes := #[t, t'] }) (v u : Value) (hd : a.eval d = v) (hs : a.eval s = u) {v' : Value} {w' : World}
  (hr : (Builtin.copy_ #[t, t'] o.type #[v, u]).run P w = .ok v' w') (h : wpList P ops Q rest (a.put o.dst v') w') : wpList P ops Q (o :: rest) a w :=
 wpList_plain hgd fun K hK => by
  have := hK _ _ h
  unfold Oper.wp execOp
  simp only [ho, resolve, invoke, builtin, Sem.run_bind, Sem.run_pure, Result.andThen_ok, List.map_toArray, List.map_cons, List.map_nil, hd, hs, hr]
  exact this
theorem step_copy_run2 {P : Program} {ops : Array Oper} {o : Oper} {a : Act} {w : World} {K : Act → World → Prop} {Q : Exit → Act → World → Prop} {E : Prop}
  (hg : o.guard = none) (d x : Operand) (dT sT : TypeId) (hop : o.op = Op.call { callee := Callee.builtin Builtin.copy, args := #[d, x], argTypes := #[dT, sT] })
  (v u : Value) (hd : a.eval d = v) (hx : a.eval x = u) {v' : Value} {w' : World} (hr : (Builtin.copy_ #[dT, sT] o.type #[v, u]).run P w = .ok v' w') (hK : K (a.put o.dst v') w') :
  if Region.wanted o (yielded ops a.tmps) = true then Oper.wp P o a w K Q else E := by
 have hw : Region.wanted o (yielded ops a.tmps) = true := by simp [Region.wanted, hg]
 rw [if_pos hw]
 unfold Oper.wp
 simp [execOp, hop, resolve, invoke, builtin, hd, hx, hr, Result.andThen]
 exact hK
set_option maxHeartbeats 8000000 in
set_option maxRecDepth 100000 in
theorem insert_end (base g1 c : Nat) (l : List S24) (w : World) (hR : Kd.R k24 24 w base (fun _ => True) (.slice (some ⟨g1, 0, none⟩) l.length c) l) (hb : base ≤ w.heap.size) (hroom : l.length + 1 ≤ c) (hlim : (l.length + 1) * 32 ≤ 140737488355328) (vb vc : Nat) (x : S24) (hv : w.heap[vb]? = some (.cells #[.string x.f0, .string x.f1] 24 (0, 0))) :
  Calls Try.prog 14 #[.slice (some ⟨g1, 0, none⟩) l.length c, .int .i64 (l.length : Int), .slice (some ⟨vb, 0, none⟩) 1 vc] w fun e w' => ∃ v1, e = .returned v1 ∧ Kd.R k24 24 w' base (fun _ => True) v1 (l ++ [x]) ∧ Below base w w' := by
 have hlc : l.length ≤ c := by
  obtain ⟨A, c', e, h, _⟩ := Kd.R_reads hR
  injection e with _ _ e
  omega
 have hn0 : ¬ ((1 : Int) = 0) := by omega
 have hlc2 : (l.length : Int) ≤ (c : Int) := by omega
 have hb4 : ¬ (c = l.length) := by omega
 have hl0 : (0 : Int) ≤ (l.length : Int) := by omega
 have HR := Aside0.mk hR
 have HB := Aside0.mk hb
 have HL := Aside0.mk hlim
 have HV := Aside0.mk hv
 clear hR hb hlim hv hlc hroom
 go_enter Try.func14, Try.ntmps14
 go_wp2_with (at_builtin; refine Kd.R_append_rows k24 (Rr := k24.K w) (w0 := w) base rfl (.tmp 23) (.tmp 24) 22 24 (.agg #[(.string ⟨#[]⟩), (.string ⟨#[]⟩)]) 32 rfl Try.underlying22 info24 rfl (by decide) (by decide) _ l [x] (some ⟨vb, 0, none⟩) 1 vc (fun _ => True) (fun _ => False) rfl rfl HR.out ?aR (fun y cs h => (by obtain rfl := k24_open h; exact k24_mkM _ _ _ _)) (fun _ h => h.elim) (fun _ _ => trivial) (Below.refl _ w) HB.out HL.out ?_; (case aR => exact ⟨rfl, by decide, fun _ => ⟨_, rfl, fun j p hj => by (cases j with | zero => (cases hj; exact ⟨[.string x.f0, .string x.f1], rfl, k24_mk _ _, fun i u hi => by rw [Addr.add_lit, blk_cell HV.out]; simpa using hi⟩) | succ j => simp at hj)⟩⟩); intro v1 w1 ho hb hg hat; have n0_ := Aside0.mk ho; have n1_ := Aside0.mk hb; clear ho hb hg hat)
 go_ret
 exact ⟨_, rfl, n0_.out, n1_.out⟩
set_option maxHeartbeats 8000000 in
set_option maxRecDepth 100000 in
theorem insert_shift (base g1 c : Nat) (l : List S24) (w : World) (hR : Kd.R k24 24 w base (fun _ => True) (.slice (some ⟨g1, 0, none⟩) l.length c) l) (hb : base ≤ w.heap.size) (hroom : l.length + 1 ≤ c) (i : Nat) (hi : i < l.length) (vb vc : Nat) (hvb : vb ≠ g1) (x : S24) (hv : w.heap[vb]? = some (.cells #[.string x.f0, .string x.f1] 24 (0, 0))) :
  Calls Try.prog 14 #[.slice (some ⟨g1, 0, none⟩) l.length c, .int .i64 (i : Int), .slice (some ⟨vb, 0, none⟩) 1 vc] w fun e w' => ∃ v1, e = .returned v1 ∧ Kd.R k24 24 w' base (fun _ => True) v1 (l.take i ++ x :: l.drop i) ∧ Below base w w' := by
 obtain ⟨g, e, -, hgb, hcm, hrow⟩ := row2_of hR
 obtain rfl : g1 = g := by cases e; rfl
 clear e
 have hov : ∀ lb cb, (callFunc 23 #[.slice (some ⟨vb, 0, none⟩) 1 vc, .slice (some ⟨g1, (i + 1) * 2, none⟩) lb cb]).run Try.prog w = .ok (.value (.bool false)) w := fun lb cb => by
  obtain ⟨cur, hh, hs, hl, hc⟩ := hrow
  rw [run_callFunc_extern Try.func23 kr_ kr_ kr_ (e := Extern.SlicesOverlaps.overlaps #[22, 22] #[4]) kr_,
   Lib.run_overlaps_apart w 22 4 24 Try.underlying22 2 run_sizeE ⟨vb, 0, none⟩ ⟨g1, (i + 1) * 2, none⟩ 1 vc lb cb hvb 24 24 2 cur.size (by simp [World.shape?, hv]) (by simp [World.shape?, hh]) (by omega) (blk_frozen hv _) (blk_frozen hv _)]
  rfl
 have hrd : Row2 w.drew g1 c l := hrow.move rfl
 obtain ⟨w1, hcp1, hr1, hg1⟩ := hrd.shift i hi hroom
 have hv1 : w1.heap[vb]? = some (.cells #[.string x.f0, .string x.f1] 24 (0, 0)) := (hg1.block vb (blk_lt (show w.drew.heap[vb]? = _ from hv)) (fun e => hvb (Option.some.inj e))).trans hv
 have hcp2 := hr1.copy1 i (by rw [List.length_append, List.length_take, List.length_drop]; omega) vb x hv1
 have hr2 := hr1.put i (by rw [List.length_append, List.length_take, List.length_drop]; omega) x
 rw [show (l.take (i + 1) ++ l.drop i).set i x = l.take i ++ x :: l.drop i from by
  rw [List.take_succ_eq_append_getElem hi, List.append_assoc, List.set_append_right _ _ (by rw [List.length_take]; omega)]
  rw [show i - (l.take i).length = 0 by rw [List.length_take]; omega]
  rfl] at hr2
 have hg2 : w.grownBy ((w1.setCell ⟨g1, i * 2, none⟩ (.string x.f0)).setCell ⟨g1, i * 2 + 1, none⟩ (.string x.f1)) (some g1) := gb_set (gb_set (gb_trans (show w.grownBy w.drew (some g1) from ⟨rfl, rfl, rfl, Nat.le_refl _, fun _ _ _ => rfl⟩) hg1) _ _) _ _
 have hfin := hr2.R hgb hcm
 have hlen : (l.take i ++ x :: l.drop i).length = l.length + 1 := by rw [List.length_append, List.length_cons, List.length_take, List.length_drop]; omega
 rw [hlen] at hfin
 have hbel : Below base w _ := gb_out hg2 hb (fun k hk => by cases hk; exact hgb)
 have FIN := Aside0.mk hfin
 have BEL := Aside0.mk hbel
 have hm63 : c ≤ 9223372036854775807 := hcm
 have hz1 : ¬ ((1 : Int) = 0) := by omega
 have hz2 : ¬ ((i : Int) = (l.length : Int)) := by omega
 have hw0 : IntKind.i64.wrap ((l.length : Int) + 1) = (l.length : Int) + 1 := by rw [IntKind.wrap_i64]; omega
 have hw1 : IntKind.i64.wrap ((i : Int) + 1) = (i : Int) + 1 := by rw [IntKind.wrap_i64]; omega
 have hc1 : ¬ ((c : Int) < (l.length : Int) + 1) := by omega
 have hb1 : (0 : Int) ≤ (i : Int) + 1 := by omega
 have hb0 : (0 : Int) ≤ (i : Int) := by omega
 have hin : (i : Int) ≤ (l.length : Int) := by omega
 have htn : ((i : Int) + 1).toNat = i + 1 := by omega
 have htl : ((l.length : Int) + 1).toNat = l.length + 1 := by omega
 have hb2 : ¬ (c = i + 1) := by omega
 have hb3 : (i : Int) ≤ (l.length : Int) + 1 := by omega
 have hb5 : (i : Int) + 1 ≤ (l.length : Int) + 1 := by omega
 have hb6 : (l.length : Int) + 1 ≤ (c : Int) := by omega
 have hb7 : (0 : Int) ≤ (l.length : Int) + 1 := by omega
 have hb4 : ¬ (c = i) := by omega
 have hdl : 0 < l.length + 1 - i := by omega
 have HH := am_ (And.intro hcp1 hcp2)
 clear hR hrow hrd hr1 hg1 hr2 hg2 hfin hbel hv hv1 hcp1 hcp2 hlen
 go_enter Try.func14, Try.ntmps14
 go_wp2_with (simp only [hov])
 have mixed : Try.prog.follows Departure.mixedOrders = true := by kernel_rfl
 have hcp1 := HH.out.1
 go_region_law_o (refine step_copy_run2 rfl _ _ 22 22 rfl _ _ (by simp [Act.eval, Act.put]) (by simp [Act.eval, Act.put]) (hcp1 _ _ _) ?_)
 have hcp2 := fun ty dc => HH.out.2 ty (l.length + 1 - i) dc vc hdl
 go_wp2_with (simp only [hcp2])
 go_ret
 exact ⟨_, rfl, FIN.out, BEL.out⟩
theorem insert_at (base g1 c : Nat) (l : List S24) (w : World) (hR : Kd.R k24 24 w base (fun _ => True) (.slice (some ⟨g1, 0, none⟩) l.length c) l) (hb : base ≤ w.heap.size) (hroom : l.length + 1 ≤ c) (hlim : (l.length + 1) * 32 ≤ 140737488355328) (i : Nat) (hi : i ≤ l.length) (vb vc : Nat) (hvb : vb ≠ g1) (x : S24) (hv : w.heap[vb]? = some (.cells #[.string x.f0, .string x.f1] 24 (0, 0))) :
  Calls Try.prog 14 #[.slice (some ⟨g1, 0, none⟩) l.length c, .int .i64 (i : Int), .slice (some ⟨vb, 0, none⟩) 1 vc] w fun e w' => ∃ v1, e = .returned v1 ∧ Kd.R k24 24 w' base (fun _ => True) v1 (l.take i ++ x :: l.drop i) ∧ Below base w w' := by
 rcases Nat.lt_or_ge i l.length with h | h
 ·exact insert_shift base g1 c l w hR hb hroom i h vb vc hvb x hv
 ·obtain rfl : i = l.length := by omega
  rw [List.take_length, List.drop_length]
  exact insert_end base g1 c l w hR hb hroom hlim vb vc x hv

/-! ### pairs_Set: function 5 -/
def pairs_Set.f (l0 : List (S24)) (a1 : ByteArray) (a2 : ByteArray) : Option (List (S24)) :=
 if qAll pairs_Same.f l0 a1 = true then (if idxI (pOf pairs_Same.f a1) l0 < 0 then pairs_Add.f l0 a1 a2 else (pairs_Drop.f l0 a1).map fun d => d.take (idxI (pOf pairs_Same.f a1) l0).toNat ++ (⟨a1, a2⟩ : S24) :: d.drop (idxI (pOf pairs_Same.f a1) l0).toNat) else none
theorem set_room {α : Type} (p : α → Bool) (l : List α) (k : Nat) (hk : k < l.length) (h1 : p (l[k]'hk) = true) (h0 : ∀ j (hj : j < k), p (l[j]'(by omega)) = false) : (l.filter fun x => !p x).length + 1 ≤ l.length ∧ k ≤ (l.filter fun x => !p x).length := by
 have e : l = l.take k ++ l[k]'hk :: l.drop (k + 1) := by rw [List.getElem_cons_drop, List.take_append_drop]
 have hf : (l.take k).filter (fun x => !p x) = l.take k := List.filter_eq_self.2 fun x hx => by
  obtain ⟨j, hj, rfl⟩ := List.getElem_of_mem hx
  rw [List.length_take] at hj
  rw [List.getElem_take, h0 j (by omega)]; rfl
 have h2 : (l.filter fun x => !p x) = l.take k ++ (l.drop (k + 1)).filter (fun x => !p x) := by
  conv => lhs; rw [e]
  rw [List.filter_append, List.filter_cons, h1, hf]; simp
 have h3 := List.length_filter_le (fun x => !p x) (l.drop (k + 1))
 rw [h2, List.length_append, List.length_take]
 rw [List.length_drop] at h3
 omega
set_option maxHeartbeats 8000000 in
set_option maxRecDepth 100000 in
theorem pairs_Set.calls (A0 : Option Addr) (c0 : Nat) (l0 : List (S24)) (a1 : ByteArray) (a2 : ByteArray) (r : List (S24)) (w : World) (hr0 : Kd.C k24 w A0 l0.length l0) (hc0 : l0.length ≤ c0) (h : pairs_Set.f l0 a1 a2 = some r) :
  Calls Try.prog 5 #[.slice A0 l0.length c0, .string a1, .string a2] w fun e w' => ∃ v0_ : Value, e = .returned (v0_) ∧ Kd.R k24 24 w' w.heap.size (fun _ => True) v0_ r ∧ Below w.heap.size w w' := by
 have hq : qAll pairs_Same.f l0 a1 = true := by
  by_cases hx : qAll pairs_Same.f l0 a1 = true
  ·exact hx
  ·rw [pairs_Set.f, if_neg hx] at h; cases h
 rw [pairs_Set.f, if_pos hq] at h
 have eg : ∀ args W, (callFunc 8 args).run Try.prog W = .ok (.enter 8 args) W := enters_of Try.func8 kr_ rfl
 have hfs := fun W (hW : Kd.C k24 W A0 l0.length l0) => finder_first.calls 8 pairs_Same.f same_at eg A0 c0 l0 a1 W hW hq
 rcases idxI_spec (pOf pairs_Same.f a1) l0 with ⟨e0, hall⟩ | ⟨k0, hk0, e0, hpk, hbef⟩
 ·rw [if_pos (by rw [e0]; decide)] at h
  rw [e0] at hfs
  have HFS := Aside0.mk hfs
  have HA := am_ (fun W (hW : Kd.C k24 W A0 l0.length l0) => pairs_Add.calls A0 c0 l0 a1 a2 r W hW hc0 h)
  have HR := Aside0.mk hr0
  clear hfs h hr0 hq eg hall e0 hc0
  go_enter Try.func5, Try.ntmps5
  go_wp2_with (first | (go_at_call 12; refine (HFS.out _ HR.out).mono ?_; rintro e w2 ⟨rfl, hb⟩; have HB := Aside0.mk hb; clear hb) | (go_at_call 13; refine (HA.out _ (by exact Kd.C_below HR.out HB.out)).mono ?_; rintro e w3 ⟨v0, rfl, hR, hb⟩; have HV := Aside0.mk hR; have HB3 := Aside0.mk hb; clear hR hb))
  go_ret
  exact ⟨_, rfl, Kd.R_lower HV.out HB.out.size, HB.out.trans (HB3.out.mono HB.out.size)⟩
 ·rw [if_neg (by rw [e0]; omega)] at h
  rw [e0] at hfs h
  simp only [Int.toNat_natCast] at h
  obtain ⟨d, hd, rfl⟩ := Option.map_eq_some_iff.1 h
  clear h
  have hdl : d = l0.filter (fun x => !pOf pairs_Same.f a1 x) ∧ l0.length * 32 ≤ 140737488355328 := by
   by_cases hx : qAll pairs_Same.f l0 a1 = true ∧ l0.length * 32 ≤ 140737488355328
   ·rw [pairs_Drop.f, if_pos hx] at hd
    exact ⟨(Option.some.inj hd).symm, hx.2⟩
   ·rw [pairs_Drop.f, if_neg hx] at hd; cases hd
  obtain ⟨hr1, hr2⟩ := set_room (pOf pairs_Same.f a1) l0 k0 hk0 hpk hbef
  rw [← hdl.1] at hr1 hr2
  have hlim : (d.length + 1) * 32 ≤ 140737488355328 := Nat.le_trans (Nat.mul_le_mul_right _ hr1) hdl.2
  have HFS := Aside0.mk hfs
  have HD := am_ (fun W (hW : Kd.C k24 W A0 l0.length l0) => drop_at A0 c0 l0 a1 d W hW hc0 hd)
  have HR := Aside0.mk hr0
  have HM := am_ (show ∃ x ∈ l0, pOf pairs_Same.f a1 x = true from ⟨_, List.getElem_mem hk0, hpk⟩)
  have HN := am_ (And.intro hr1 (And.intro hr2 hlim))
  have hk1 : ¬ ((k0 : Int) < 0) := by omega
  clear hfs hr0 hq eg hbef hpk e0 hc0 hd hdl hr1 hr2 hlim hk0
  go_enter Try.func5, Try.ntmps5
  go_wp2_with (first | (go_at_call 12; refine (HFS.out _ HR.out).mono ?_; rintro e w2 ⟨rfl, hb⟩; have HB := Aside0.mk hb; clear hb) | (go_at_call 7; refine (HD.out _ (by exact Kd.C_below HR.out HB.out)).mono ?_; rintro e w3 ⟨v0, rfl, ⟨hR, hcap⟩, hb⟩; obtain ⟨g1, c, rfl, hcc⟩ := hcap HM.out; have HV := Aside0.mk hR; have HB3 := Aside0.mk hb; have HC := Aside0.mk hcc; clear hR hb hcap hcc))
  have hg1 : g1 < w3.heap.size := by
   obtain ⟨g, e, -, -, -, hrow⟩ := row2_of HV.out
   cases e
   exact hrow.lt
  refine (insert_at w.heap.size g1 c d _ (by exact Kd.R_lower (Kd.R_below HV.out ((Below.refl _ w3).alloc (Nat.le_refl _) _)) HB.out.size) (by have := HB.out.size; have := HB3.out.size; simp; omega) (Nat.le_trans HN.out.1 HC.out) HN.out.2.2 k0 HN.out.2.1 _ _ (by omega) (⟨a1, a2⟩ : S24) (by unfold World.alloc; exact Array.getElem?_push_size)).mono ?_
  rintro e w4 ⟨v1, rfl, hR, hb⟩
  have HV4 := Aside0.mk hR
  have HB4 := am_ (Below.trans (((HB.out.trans (HB3.out.mono HB.out.size)).alloc (by have := HB.out.size; have := HB3.out.size; omega) _)) hb)
  clear hR hb
  go_wp2
  go_ret
  exact ⟨_, rfl, HV4.out, HB4.out⟩

/-! ### tollref04_Same: function 6 -/
def tollref04_Same.l0 : Nat → List (S24) → List (S24) → Int → Option (Bool)
 | 0, _, _, _ => none
 | k + 1, x0, x1, x5 => if x5 < (x0.length : Int) then (if 0 ≤ x5 then (if x5 < (x1.length : Int) then (if (!((((rd_T24 x0 x5).f0).toList) == (((rd_T24 x1 x5).f0).toList)) || (!((((rd_T24 x0 x5).f1).toList) == (((rd_T24 x1 x5).f1).toList)))) = true then (some false) else (tollref04_Same.l0 k x0 x1 (wrap64 (x5 + 1)))) else (none)) else (none)) else (some true)
def tollref04_Same.f (k : Nat) (l0 : List (S24)) (l1 : List (S24)) : Option (Bool) := if (l0.length : Int) = (l1.length : Int) then (tollref04_Same.l0 k l0 l1 0) else (some false)
theorem tollref04_Same.mono_l : ∀ k, (∀ y0 y1 y2, LeO (tollref04_Same.l0 k y0 y1 y2) (tollref04_Same.l0 (k + 1) y0 y1 y2))
 | 0 => fun _ _ _ r h => by simp [tollref04_Same.l0] at h
 | k + 1 => by
  have ih0 := tollref04_Same.mono_l k
  ·intro y0 y1 y2
   unfold tollref04_Same.l0
   repeat' first
   | (with_reducible exact ih0 _ _ _)
   | (with_reducible exact LeO.refl _)
   | (with_reducible exact LeO.none _)
   | (with_reducible refine LeO.ite ?_ ?_)
   | (with_reducible refine LeO.bind ?_ (fun _ => ?_))
   | exact ih0 _ _ _
   | exact LeO.none _
   | refine LeO.ite ?_ ?_
   | refine LeO.bind ?_ (fun _ => ?_)
theorem tollref04_Same.mono : ∀ a0 a1 k, LeO (tollref04_Same.f k a0 a1) (tollref04_Same.f (k + 1) a0 a1) := by
 intro a0 a1 k
 have ih0 := tollref04_Same.mono_l k
 unfold tollref04_Same.f
 repeat' first
   | (with_reducible exact ih0 _ _ _)
   | (with_reducible exact LeO.refl _)
   | (with_reducible exact LeO.none _)
   | (with_reducible refine LeO.ite ?_ ?_)
   | (with_reducible refine LeO.bind ?_ (fun _ => ?_))
   | exact ih0 _ _ _
   | exact LeO.none _
   | refine LeO.ite ?_ ?_
   | refine LeO.bind ?_ (fun _ => ?_)
set_option maxHeartbeats 8000000 in
set_option maxRecDepth 100000 in
theorem tollref04_Same.calls (k : Nat) (A0 : Option Addr) (c0 : Nat) (l0 : List (S24)) (A1 : Option Addr) (c1 : Nat) (l1 : List (S24)) (r : Bool) (w : World) (hr0 : Kd.C k24 w A0 l0.length l0) (hc0 : l0.length ≤ c0) (hr1 : Kd.C k24 w A1 l1.length l1) (hc1 : l1.length ≤ c1) (h : tollref04_Same.f k l0 l1 = some r) :
  Calls Try.prog 6 #[.slice A0 l0.length c0, .slice A1 l1.length c1] w fun e w' => e = .returned (.bool r) ∧ Drawn0 w w' := by
 have hu24 := Try.underlying24
 have HR0 := Aside0.mk hr0
 have HC0 := Aside0.mk hc0
 clear hr0 hc0
 have HR1 := Aside0.mk hr1
 have HC1 := Aside0.mk hc1
 clear hr1 hc1
 have H : (if (l0.length : Int) = (l1.length : Int) then (tollref04_Same.l0 k l0 l1 0) else (some false)) = some r := h
 clear h
 by_cases c3 : (l0.length : Int) = (l1.length : Int)
 ·rw [if_pos c3] at H
  have c3b0 : ((l0.length : Int) == (l1.length : Int)) = true := beq_iff_eq.mpr c3
  have c3b1 : ((l0.length : Int) != (l1.length : Int)) = false := bne_eq_false_iff_eq.mpr c3
  have c3b2 : (l0.length == l1.length) = true := by first | simpa using c3 | (simp at c3 ⊢; omega)
  clear c3
  have H' := Aside0.mk H
  clear H
  go_enter Try.func6, Try.ntmps6
  go_wp2
  repeat (go_quiet (fail); try go_wp2)
  go_loopg [5] k (fun kq v5 w' => ∃ (x5_1 : Int), v5 = .int .i64 x5_1 ∧ Aside0 (tollref04_Same.l0 kq l0 l1 x5_1 = some r) ∧ Aside0 (kq ≤ k) ∧ Drawn0 w w')
  case atStart => exact ⟨(0), sd_, H', ⟨Nat.le_refl _⟩, by repeat (first | exact Drawn0.refl _ | apply Drawn0.step)⟩
  case round =>
   clear H'
   try clear c1
   try clear p2
   try clear c3
   try clear c3b0
   try clear c3b1
   try clear c3b2
   obtain ⟨x5_1, rfl, HA, HK1, ⟨m1, rfl⟩⟩ := hrel
   cases gk with
   | zero => exact absurd HA.out (by simp [tollref04_Same.l0])
   | succ k1 =>
    have H := HA.out
    clear HA
    simp only [tollref04_Same.l0] at H
    by_cases c4 : x5_1 < (l0.length : Int)
    ·rw [if_pos c4] at H
     have c4b0 : decide (x5_1 < (l0.length : Int)) = true := decide_eq_true c4
     clear c4
     by_cases c5 : 0 ≤ x5_1
     ·rw [if_pos c5] at H
      have c5b0 : decide (0 ≤ x5_1) = true := decide_eq_true c5
      clear c5
      by_cases c6 : x5_1 < (l1.length : Int)
      ·rw [if_pos c6] at H
       have c6b0 : decide (x5_1 < (l1.length : Int)) = true := decide_eq_true c6
       clear c6
       by_cases c7 : (!((((rd_T24 l0 x5_1).f0).toList) == (((rd_T24 l1 x5_1).f0).toList)) || (!((((rd_T24 l0 x5_1).f1).toList) == (((rd_T24 l1 x5_1).f1).toList)))) = true
       ·rw [if_pos c7] at H
        have c7b0 : (!((((rd_T24 l0 x5_1).f0).toList) == (((rd_T24 l1 x5_1).f0).toList)) || (!((((rd_T24 l0 x5_1).f1).toList) == (((rd_T24 l1 x5_1).f1).toList)))) = true := c7
        clear c7
        obtain rfl := Option.some.inj H
        have p116 : 0 ≤ (x5_1 : Int) := of_decide_eq_true as_
        have q116 : x5_1 < (l0.length : Int) := of_decide_eq_true as_
        obtain ⟨ad116, e116, hx116_0, hx116_1⟩ := at_T24 HR0.out x5_1 p116 q116
        cases e116
        replace p116 := eq_true p116
        replace q116 := eq_true q116
        have p117 : 0 ≤ (x5_1 : Int) := of_decide_eq_true as_
        have q117 : x5_1 < (l1.length : Int) := of_decide_eq_true as_
        obtain ⟨ad117, e117, hx117_0, hx117_1⟩ := at_T24 HR1.out x5_1 p117 q117
        cases e117
        replace p117 := eq_true p117
        replace q117 := eq_true q117
        go_wp2
        repeat (go_quiet (fail); try go_wp2)
        go_ret
        exact ⟨by first | rfl | (simp; done) | (simp [*]; done) | (simp [bne_nil_isEmpty, beq_nil_isEmpty]; done) | (simp [*, bne_nil_isEmpty, beq_nil_isEmpty]; done), by repeat (first | exact Drawn0.refl _ | apply Drawn0.step)⟩
       ·rw [if_neg c7] at H
        have c7b0 : (!((((rd_T24 l0 x5_1).f0).toList) == (((rd_T24 l1 x5_1).f0).toList)) || (!((((rd_T24 l0 x5_1).f1).toList) == (((rd_T24 l1 x5_1).f1).toList)))) = false := by simpa using c7
        clear c7
        have H' := Aside0.mk H
        clear H
        have p116 : 0 ≤ (x5_1 : Int) := of_decide_eq_true as_
        have q116 : x5_1 < (l0.length : Int) := of_decide_eq_true as_
        obtain ⟨ad116, e116, hx116_0, hx116_1⟩ := at_T24 HR0.out x5_1 p116 q116
        cases e116
        replace p116 := eq_true p116
        replace q116 := eq_true q116
        have p117 : 0 ≤ (x5_1 : Int) := of_decide_eq_true as_
        have q117 : x5_1 < (l1.length : Int) := of_decide_eq_true as_
        obtain ⟨ad117, e117, hx117_0, hx117_1⟩ := at_T24 HR1.out x5_1 p117 q117
        cases e117
        replace p117 := eq_true p117
        replace q117 := eq_true q117
        go_wp2
        repeat (go_quiet (fail); try go_wp2)
        go_roundg k1
        case measure => have := HK1.out; omega
        case rel => exact ⟨(wrap64 (x5_1 + 1)), sd_, H', ⟨by have := HK1.out; omega⟩, by repeat (first | exact Drawn0.refl _ | apply Drawn0.step)⟩
      ·rw [if_neg c6] at H
       exact absurd H (by simp)
     ·rw [if_neg c5] at H
      exact absurd H (by simp)
    ·rw [if_neg c4] at H
     have c4b0 : decide (x5_1 < (l0.length : Int)) = false := decide_eq_false c4
     clear c4
     obtain rfl := Option.some.inj H
     go_wp2
     repeat (go_quiet (fail); try go_wp2)
     go_ret
     exact ⟨by first | rfl | (simp; done) | (simp [*]; done) | (simp [bne_nil_isEmpty, beq_nil_isEmpty]; done) | (simp [*, bne_nil_isEmpty, beq_nil_isEmpty]; done), by repeat (first | exact Drawn0.refl _ | apply Drawn0.step)⟩
 ·rw [if_neg c3] at H
  have c3b0 : ((l0.length : Int) == (l1.length : Int)) = false := beq_eq_false_iff_ne.mpr c3
  have c3b1 : ((l0.length : Int) != (l1.length : Int)) = true := bne_iff_ne.mpr c3
  have c3b2 : (l0.length == l1.length) = false := by first | simpa using c3 | (simp at c3 ⊢; omega)
  obtain rfl := Option.some.inj H
  go_enter Try.func6, Try.ntmps6
  go_wp2
  repeat (go_quiet (fail); try go_wp2)
  go_ret
  exact ⟨by first | rfl | (simp; done) | (simp [*]; done) | (simp [bne_nil_isEmpty, beq_nil_isEmpty]; done) | (simp [*, bne_nil_isEmpty, beq_nil_isEmpty]; done), by repeat (first | exact Drawn0.refl _ | apply Drawn0.step)⟩

/-! ### pairs_Get: function 10 -/
def pairs_Get.f (l0 : List (S24)) (a1 : ByteArray) : Option (ByteArray × Bool) := if qAll pairs_Same.f l0 a1 = true then some (getI pairs_Same.f l0 a1) else none
set_option maxHeartbeats 8000000 in
set_option maxRecDepth 100000 in
theorem pairs_Get.calls (A0 : Option Addr) (c0 : Nat) (l0 : List (S24)) (a1 : ByteArray) (r1 : ByteArray) (r2 : Bool) (w : World) (hr0 : Kd.C k24 w A0 l0.length l0) (hc0 : l0.length ≤ c0) (h : pairs_Get.f l0 a1 = some (r1, r2)) :
  Calls Try.prog 10 #[.slice A0 l0.length c0, .string a1] w fun e w' => e = .returned (.tuple #[.string r1, .bool r2]) ∧ Below w.heap.size w w' := by
 have hq : qAll pairs_Same.f l0 a1 = true := by
  by_cases hx : qAll pairs_Same.f l0 a1 = true
  ·exact hx
  ·rw [pairs_Get.f, if_neg hx] at h; cases h
 rw [pairs_Get.f, if_pos hq] at h
 have eg : ∀ args W, (callFunc 8 args).run Try.prog W = .ok (.enter 8 args) W := enters_of Try.func8 kr_ rfl
 have hcall := finder_get.calls 8 pairs_Same.f same_at eg A0 c0 l0 a1 w hr0 hq
 rw [Option.some.inj h] at hcall
 have HC := Aside0.mk hcall
 clear h hq hcall eg hr0 hc0
 go_enter Try.func10, Try.ntmps10
 go_wp2_with (go_at_call 20; refine HC.out.mono ?_; rintro e w' ⟨rfl, hb'⟩; have HB' := Aside0.mk hb'; clear hb')
 go_ret2
 exact ⟨rfl, HB'.out⟩

set_option maxHeartbeats 4000000 in
theorem plain_at : SameAt Try.prog 25 (fun a b => some (a.toList == b.toList)) := by
 intro W a b r h
 obtain rfl := Option.some.inj h
 clear h
 go_enter Try.func25, Try.ntmps25
 go_wp2
 go_ret
 exact ⟨rfl, Below.refl _ _⟩
/-! ### pairs_Holds: function 19 -/
def holdsQ (fold : Bool) : ByteArray → ByteArray → Option Bool := if fold = true then pairs_Same.f else fun a b => some (a.toList == b.toList)
def holdsX (fold : Bool) (l : List (S24)) (x : S24) : Bool := (getI (holdsQ fold) l x.f0).2 && ((getI (holdsQ fold) l x.f0).1.toList == x.f1.toList)
theorem holdsX_true (fold : Bool) (l0 l : List (S24)) (h : ∀ j (hj : j < l0.length), holdsX fold l (l0[j]'hj) = true) : l0.all (holdsX fold l) = true :=
 List.all_eq_true.2 fun x hx => by
  obtain ⟨j, hj, rfl⟩ := List.getElem_of_mem hx
  exact h j hj
theorem holdsX_false (fold : Bool) (l0 l : List (S24)) (k : Nat) (hk : k < l0.length) (h : holdsX fold l (l0[k]'hk) = false) : l0.all (holdsX fold l) = false := by
 rw [List.all_eq_false]
 exact ⟨_, List.getElem_mem hk, by rw [h]; decide⟩
def pairs_Holds.f (l0 : List (S24)) (l1 : List (S24)) (a2 : Bool) : Option (Bool) := if (l0.all fun x => qAll (holdsQ a2) l1 x.f0) = true then some (l0.all (holdsX a2 l1)) else none
set_option maxHeartbeats 8000000 in
set_option maxRecDepth 100000 in
theorem pairs_Holds.calls (A0 : Option Addr) (c0 : Nat) (l0 : List (S24)) (A1 : Option Addr) (c1 : Nat) (l1 : List (S24)) (a2 : Bool) (r : Bool) (w : World) (hr0 : Kd.C k24 w A0 l0.length l0) (hc0 : l0.length ≤ c0) (hr1 : Kd.C k24 w A1 l1.length l1) (hc1 : l1.length ≤ c1) (h : pairs_Holds.f l0 l1 a2 = some r) :
  Calls Try.prog 19 #[.slice A0 l0.length c0, .slice A1 l1.length c1, .bool a2] w fun e w' => e = .returned (.bool r) ∧ Below w.heap.size w w' := by
 have hall : (l0.all fun x => qAll (holdsQ a2) l1 x.f0) = true := by
  by_cases hx : (l0.all fun x => qAll (holdsQ a2) l1 x.f0) = true
  ·exact hx
  ·rw [pairs_Holds.f, if_neg hx] at h; cases h
 rw [pairs_Holds.f, if_pos hall] at h
 have HR0 := Aside0.mk hr0
 have HR1 := Aside0.mk hr1
 have HA := Aside0.mk hall
 have H := am_ (Option.some.inj h)
 have hmx := hr0.2.1
 have e20 : ∀ args W, (callFunc 8 args).run Try.prog W = .ok (.enter 8 args) W := enters_of Try.func8 kr_ rfl
 have e30 : ∀ args W, (callFunc 25 args).run Try.prog W = .ok (.enter 25 args) W := enters_of Try.func25 kr_ rfl
 have E20 := Aside0.mk e20
 have E30 := Aside0.mk e30
 clear h hall hr0 hr1 hc0 hc1 e20 e30
 cases a2 with
 | true =>
  have hsame : SameAt Try.prog 8 (holdsQ true) := same_at
  have HSM := Aside0.mk hsame
  clear hsame
  go_enter Try.func19, Try.ntmps19
  go_wp2_with ((with_reducible refine gate_dst (N := 7) rfl ?_); refine box_event ?hg (N := 7) ?hd (cs := #[.nilFunc]) (t := 36) ?hr ?_; (case hd => rfl); (case hg => rfl); (case hr => first | (go_simp; done) | (go_simp; rfl)); intro gb hg w9 hbox hb; have hc0 : w9.cell? ⟨gb, 0, none⟩ = some .nilFunc := (blk_cell hbox 0).trans rfl; have hf0 := blk_frozen hbox 0; have HX := Aside0.mk hbox; have HB := Aside0.mk hb; have HG := Aside0.mk hg; clear hbox hb hg)
  have HL := am_ (show w.heap.size ≤ gb by rw [HG.out]; exact Nat.le_refl _)
  have hfb : ((w9.setCell ⟨gb, 0, none⟩ (.func (.func 25) #[] #[])).setCell ⟨gb, 0, none⟩ (.func (.func 8) #[] #[])).heap[gb]? = some (.cells #[.func (.func 8) #[] #[]] 36 (0, 0)) := by
   exact blk_put (cs := #[.func (.func 25) #[] #[]]) (blk_put (cs := #[.nilFunc]) HX.out 0 _ rfl) 0 _ rfl
  have hbl : Below w.heap.size w ((w9.setCell ⟨gb, 0, none⟩ (.func (.func 25) #[] #[])).setCell ⟨gb, 0, none⟩ (.func (.func 8) #[] #[])) := by
   exact below_set (below_set HB.out HL.out) HL.out
  clear HX HB HG hc0 hf0
  generalize ((w9.setCell ⟨gb, 0, none⟩ (.func (.func 25) #[] #[])).setCell ⟨gb, 0, none⟩ (.func (.func 8) #[] #[])) = W0 at hfb hbl ⊢
  have HFB := Aside0.mk hfb
  have HBL := Aside0.mk hbl
  clear hfb hbl
  go_loopg [17] l0.length (fun gg s17 wr => ∃ kk : Nat, kk ≤ l0.length ∧ l0.length - kk ≤ gg ∧ s17 = .int .i64 kk ∧ Aside0 (Below w.heap.size w wr) ∧ Aside0 (wr.heap[gb]? = some (.cells #[.func (.func 8) #[] #[]] 36 (0, 0))) ∧ Aside0 (∀ j : Nat, j < kk → holdsX true l1 (rd_T24 l0 j) = true))
  case atStart => exact ⟨0, Nat.zero_le _, by omega, rfl, HBL, HFB, ⟨fun j hj => absurd hj (Nat.not_lt_zero _)⟩⟩
  case round =>
   clear HBL HFB
   obtain ⟨kk, hkk, hg, rfl, BW, FB, AL⟩ := hrel
   by_cases hlt : kk < l0.length
   ·have p1 : (0 : Int) ≤ (kk : Int) := by omega
    have q1 : (kk : Int) < (l0.length : Int) := by omega
    obtain ⟨ad, ea, hx_0, hx_1⟩ := at_T24 HR0.out (kk : Int) p1 q1
    cases ea
    replace hx_0 := (BW.out.cell (World.block_lt_of_cell? w _ hx_0)).trans hx_0
    replace hx_1 := (BW.out.cell (World.block_lt_of_cell? w _ hx_1)).trans hx_1
    have hmem : rd_T24 l0 (kk : Int) ∈ l0 := by
     unfold rd_T24
     rw [Int.toNat_natCast, getD_at _ _ hlt]
     exact List.getElem_mem hlt
    have hqa := List.all_eq_true.1 HA.out _ hmem
    clear hmem
    simp only [Int.toNat_natCast] at hx_0 hx_1
    have hX : holdsX true l1 (rd_T24 l0 (kk : Int)) = ((getI (holdsQ true) l1 (rd_T24 l0 (kk : Int)).f0).2 && ((getI (holdsQ true) l1 (rd_T24 l0 (kk : Int)).f0).1.toList == (rd_T24 l0 (kk : Int)).f1.toList)) := rfl
    have hcall := fun W hW => finder_get.calls 8 (holdsQ true) HSM.out E20.out A1 c1 l1 (rd_T24 l0 (kk : Int)).f0 W hW hqa
    clear hqa
    generalize hy : rd_T24 l0 (kk : Int) = y at *
    have HY := Aside0.mk hy
    clear hy
    generalize (getI (holdsQ true) l1 y.f0).1 = gv at *
    generalize (getI (holdsQ true) l1 y.f0).2 = gi at *
    have HC := Aside0.mk hcall
    have HX := Aside0.mk hX
    clear hcall hX
    replace p1 := eq_true p1
    replace q1 := eq_true q1
    have hfc : wr.cell? ⟨gb, 0, none⟩ = some (.func (.func 8) #[] #[]) := (blk_cell FB.out 0).trans rfl
    have hgl : gb < wr.heap.size := blk_lt FB.out
    by_cases hgi : gi = true
    ·subst hgi
     by_cases hv : gv.toList = y.f1.toList
     ·have hv1 : (gv.toList != y.f1.toList) = false := bne_eq_false_iff_eq.mpr hv
      have hv2 : (gv.toList == y.f1.toList) = true := beq_iff_eq.mpr hv
      have HV := Aside0.mk hv
      clear hv
      go_wp2_with (go_at_call 20; refine (HC.out _ (by exact Kd.C_alloc (Kd.C_below HR1.out BW.out) _)).mono ?_; rintro e w' ⟨rfl, hb'⟩; have BW3 := am_ ((BW.out.alloc BW.out.size _).trans (hb'.mono (by have := BW.out.size; simp; omega))); have FB3 := am_ (blk_below (blk_below FB.out ((Below.refl _ wr).alloc (Nat.le_refl _) _)) hb'); have hp1 : w'.cell? ⟨wr.heap.size, 1, none⟩ = some (.string y.f1) := (hb'.cell (p := ⟨wr.heap.size, 1, none⟩) (by simp)).trans (by simp [World.cell?_alloc_new]); clear hb')
      go_roundg (l0.length - (kk + 1))
      case measure => omega
      case rel =>
       refine ⟨kk + 1, by omega, by omega, by go_num, BW3, FB3, ⟨fun j hj => ?_⟩⟩
       by_cases e : j = kk
       ·subst e
        rw [HY.out, HX.out, HV.out]; simp
       ·exact AL.out j (by omega)
     ·have hv1 : (gv.toList != y.f1.toList) = true := bne_iff_ne.mpr hv
      have hv2 : (gv.toList == y.f1.toList) = false := beq_eq_false_iff_ne.mpr hv
      have HV := Aside0.mk hv2
      clear hv
      go_wp2_with (go_at_call 20; refine (HC.out _ (by exact Kd.C_alloc (Kd.C_below HR1.out BW.out) _)).mono ?_; rintro e w' ⟨rfl, hb'⟩; have BW3 := am_ ((BW.out.alloc BW.out.size _).trans (hb'.mono (by have := BW.out.size; simp; omega))); have FB3 := am_ (blk_below (blk_below FB.out ((Below.refl _ wr).alloc (Nat.le_refl _) _)) hb'); have hp1 : w'.cell? ⟨wr.heap.size, 1, none⟩ = some (.string y.f1) := (hb'.cell (p := ⟨wr.heap.size, 1, none⟩) (by simp)).trans (by simp [World.cell?_alloc_new]); clear hb')
      go_ret
      refine ⟨?_, BW3.out⟩
      rw [show r = false from by rw [← H.out]; exact holdsX_false _ _ _ kk hlt (by have := HX.out; rw [HV.out, ← HY.out] at this; unfold rd_T24 at this; rw [Int.toNat_natCast, getD_at _ _ hlt] at this; rw [this]; rfl)]
      rfl
    ·obtain rfl : gi = false := by simpa using hgi
     clear hgi
     go_wp2_with (go_at_call 20; refine (HC.out _ (by exact Kd.C_alloc (Kd.C_below HR1.out BW.out) _)).mono ?_; rintro e w' ⟨rfl, hb'⟩; have BW3 := am_ ((BW.out.alloc BW.out.size _).trans (hb'.mono (by have := BW.out.size; simp; omega))); have FB3 := am_ (blk_below (blk_below FB.out ((Below.refl _ wr).alloc (Nat.le_refl _) _)) hb'); have hp1 : w'.cell? ⟨wr.heap.size, 1, none⟩ = some (.string y.f1) := (hb'.cell (p := ⟨wr.heap.size, 1, none⟩) (by simp)).trans (by simp [World.cell?_alloc_new]); clear hb')
     go_ret
     refine ⟨?_, BW3.out⟩
     rw [show r = false from by rw [← H.out]; exact holdsX_false _ _ _ kk hlt (by have := HX.out; rw [← HY.out] at this; unfold rd_T24 at this; rw [Int.toNat_natCast, getD_at _ _ hlt] at this; rw [this]; rfl)]
     rfl
   ·have q1 : ¬ (kk : Int) < (l0.length : Int) := by omega
    obtain rfl : kk = l0.length := by omega
    go_wp2
    go_ret
    refine ⟨?_, BW.out⟩
    rw [show r = true from by rw [← H.out]; exact holdsX_true _ _ _ (fun j hj => by have := AL.out j hj; unfold rd_T24 at this; rwa [Int.toNat_natCast, getD_at _ _ hj] at this)]
    rfl
 | false =>
  have hsame : SameAt Try.prog 25 (holdsQ false) := plain_at
  have HSM := Aside0.mk hsame
  clear hsame
  go_enter Try.func19, Try.ntmps19
  go_wp2_with ((with_reducible refine gate_dst (N := 7) rfl ?_); refine box_event ?hg (N := 7) ?hd (cs := #[.nilFunc]) (t := 36) ?hr ?_; (case hd => rfl); (case hg => rfl); (case hr => first | (go_simp; done) | (go_simp; rfl)); intro gb hg w9 hbox hb; have hc0 : w9.cell? ⟨gb, 0, none⟩ = some .nilFunc := (blk_cell hbox 0).trans rfl; have hf0 := blk_frozen hbox 0; have HX := Aside0.mk hbox; have HB := Aside0.mk hb; have HG := Aside0.mk hg; clear hbox hb hg)
  have HL := am_ (show w.heap.size ≤ gb by rw [HG.out]; exact Nat.le_refl _)
  have hfb : (w9.setCell ⟨gb, 0, none⟩ (.func (.func 25) #[] #[])).heap[gb]? = some (.cells #[.func (.func 25) #[] #[]] 36 (0, 0)) := by
   exact blk_put (cs := #[.nilFunc]) HX.out 0 _ rfl
  have hbl : Below w.heap.size w (w9.setCell ⟨gb, 0, none⟩ (.func (.func 25) #[] #[])) := by
   exact below_set HB.out HL.out
  clear HX HB HG hc0 hf0
  generalize (w9.setCell ⟨gb, 0, none⟩ (.func (.func 25) #[] #[])) = W0 at hfb hbl ⊢
  have HFB := Aside0.mk hfb
  have HBL := Aside0.mk hbl
  clear hfb hbl
  go_loopg [17] l0.length (fun gg s17 wr => ∃ kk : Nat, kk ≤ l0.length ∧ l0.length - kk ≤ gg ∧ s17 = .int .i64 kk ∧ Aside0 (Below w.heap.size w wr) ∧ Aside0 (wr.heap[gb]? = some (.cells #[.func (.func 25) #[] #[]] 36 (0, 0))) ∧ Aside0 (∀ j : Nat, j < kk → holdsX false l1 (rd_T24 l0 j) = true))
  case atStart => exact ⟨0, Nat.zero_le _, by omega, rfl, HBL, HFB, ⟨fun j hj => absurd hj (Nat.not_lt_zero _)⟩⟩
  case round =>
   clear HBL HFB
   obtain ⟨kk, hkk, hg, rfl, BW, FB, AL⟩ := hrel
   by_cases hlt : kk < l0.length
   ·have p1 : (0 : Int) ≤ (kk : Int) := by omega
    have q1 : (kk : Int) < (l0.length : Int) := by omega
    obtain ⟨ad, ea, hx_0, hx_1⟩ := at_T24 HR0.out (kk : Int) p1 q1
    cases ea
    replace hx_0 := (BW.out.cell (World.block_lt_of_cell? w _ hx_0)).trans hx_0
    replace hx_1 := (BW.out.cell (World.block_lt_of_cell? w _ hx_1)).trans hx_1
    have hmem : rd_T24 l0 (kk : Int) ∈ l0 := by
     unfold rd_T24
     rw [Int.toNat_natCast, getD_at _ _ hlt]
     exact List.getElem_mem hlt
    have hqa := List.all_eq_true.1 HA.out _ hmem
    clear hmem
    simp only [Int.toNat_natCast] at hx_0 hx_1
    have hX : holdsX false l1 (rd_T24 l0 (kk : Int)) = ((getI (holdsQ false) l1 (rd_T24 l0 (kk : Int)).f0).2 && ((getI (holdsQ false) l1 (rd_T24 l0 (kk : Int)).f0).1.toList == (rd_T24 l0 (kk : Int)).f1.toList)) := rfl
    have hcall := fun W hW => finder_get.calls 25 (holdsQ false) HSM.out E30.out A1 c1 l1 (rd_T24 l0 (kk : Int)).f0 W hW hqa
    clear hqa
    generalize hy : rd_T24 l0 (kk : Int) = y at *
    have HY := Aside0.mk hy
    clear hy
    generalize (getI (holdsQ false) l1 y.f0).1 = gv at *
    generalize (getI (holdsQ false) l1 y.f0).2 = gi at *
    have HC := Aside0.mk hcall
    have HX := Aside0.mk hX
    clear hcall hX
    replace p1 := eq_true p1
    replace q1 := eq_true q1
    have hfc : wr.cell? ⟨gb, 0, none⟩ = some (.func (.func 25) #[] #[]) := (blk_cell FB.out 0).trans rfl
    have hgl : gb < wr.heap.size := blk_lt FB.out
    by_cases hgi : gi = true
    ·subst hgi
     by_cases hv : gv.toList = y.f1.toList
     ·have hv1 : (gv.toList != y.f1.toList) = false := bne_eq_false_iff_eq.mpr hv
      have hv2 : (gv.toList == y.f1.toList) = true := beq_iff_eq.mpr hv
      have HV := Aside0.mk hv
      clear hv
      go_wp2_with (go_at_call 20; refine (HC.out _ (by exact Kd.C_alloc (Kd.C_below HR1.out BW.out) _)).mono ?_; rintro e w' ⟨rfl, hb'⟩; have BW3 := am_ ((BW.out.alloc BW.out.size _).trans (hb'.mono (by have := BW.out.size; simp; omega))); have FB3 := am_ (blk_below (blk_below FB.out ((Below.refl _ wr).alloc (Nat.le_refl _) _)) hb'); have hp1 : w'.cell? ⟨wr.heap.size, 1, none⟩ = some (.string y.f1) := (hb'.cell (p := ⟨wr.heap.size, 1, none⟩) (by simp)).trans (by simp [World.cell?_alloc_new]); clear hb')
      go_roundg (l0.length - (kk + 1))
      case measure => omega
      case rel =>
       refine ⟨kk + 1, by omega, by omega, by go_num, BW3, FB3, ⟨fun j hj => ?_⟩⟩
       by_cases e : j = kk
       ·subst e
        rw [HY.out, HX.out, HV.out]; simp
       ·exact AL.out j (by omega)
     ·have hv1 : (gv.toList != y.f1.toList) = true := bne_iff_ne.mpr hv
      have hv2 : (gv.toList == y.f1.toList) = false := beq_eq_false_iff_ne.mpr hv
      have HV := Aside0.mk hv2
      clear hv
      go_wp2_with (go_at_call 20; refine (HC.out _ (by exact Kd.C_alloc (Kd.C_below HR1.out BW.out) _)).mono ?_; rintro e w' ⟨rfl, hb'⟩; have BW3 := am_ ((BW.out.alloc BW.out.size _).trans (hb'.mono (by have := BW.out.size; simp; omega))); have FB3 := am_ (blk_below (blk_below FB.out ((Below.refl _ wr).alloc (Nat.le_refl _) _)) hb'); have hp1 : w'.cell? ⟨wr.heap.size, 1, none⟩ = some (.string y.f1) := (hb'.cell (p := ⟨wr.heap.size, 1, none⟩) (by simp)).trans (by simp [World.cell?_alloc_new]); clear hb')
      go_ret
      refine ⟨?_, BW3.out⟩
      rw [show r = false from by rw [← H.out]; exact holdsX_false _ _ _ kk hlt (by have := HX.out; rw [HV.out, ← HY.out] at this; unfold rd_T24 at this; rw [Int.toNat_natCast, getD_at _ _ hlt] at this; rw [this]; rfl)]
      rfl
    ·obtain rfl : gi = false := by simpa using hgi
     clear hgi
     go_wp2_with (go_at_call 20; refine (HC.out _ (by exact Kd.C_alloc (Kd.C_below HR1.out BW.out) _)).mono ?_; rintro e w' ⟨rfl, hb'⟩; have BW3 := am_ ((BW.out.alloc BW.out.size _).trans (hb'.mono (by have := BW.out.size; simp; omega))); have FB3 := am_ (blk_below (blk_below FB.out ((Below.refl _ wr).alloc (Nat.le_refl _) _)) hb'); have hp1 : w'.cell? ⟨wr.heap.size, 1, none⟩ = some (.string y.f1) := (hb'.cell (p := ⟨wr.heap.size, 1, none⟩) (by simp)).trans (by simp [World.cell?_alloc_new]); clear hb')
     go_ret
     refine ⟨?_, BW3.out⟩
     rw [show r = false from by rw [← H.out]; exact holdsX_false _ _ _ kk hlt (by have := HX.out; rw [← HY.out] at this; unfold rd_T24 at this; rw [Int.toNat_natCast, getD_at _ _ hlt] at this; rw [this]; rfl)]
     rfl
   ·have q1 : ¬ (kk : Int) < (l0.length : Int) := by omega
    obtain rfl : kk = l0.length := by omega
    go_wp2
    go_ret
    refine ⟨?_, BW.out⟩
    rw [show r = true from by rw [← H.out]; exact holdsX_true _ _ _ (fun j hj => by have := AL.out j hj; unfold rd_T24 at this; rwa [Int.toNat_natCast, getD_at _ _ hj] at this)]
    rfl

end Go.Proofs.Ytglghmcdcdljoaa.P
