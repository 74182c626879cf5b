-- written by wip/tool/hprint.py of this repo: the kit's print, with contracts by hand joined; Lean checks it.
import Derived.Test.YtpmllmfamjpinaaDoorPx0
namespace Go.Proofs.YtpmllmfamjpinaaDoor.P
open Go.RowKit Go.Proofs.YtpmllmfamjpinaaDoorW.PrintWords Go.Proofs.YtpmllmfamjpinaaDoorW.PrintLast Go.Proofs.YtpmllmfamjpinaaDoorW.PrintMore
attribute [local go_sem] max2_int min2_int max_two min_two max_three min_three max_four min_four   -- for this text's walks alone
set_option linter.unusedVariables false
set_option linter.unusedSimpArgs false

/-! ### tolllaw01_Few: function 14 -/
def tolllaw01_Few.f (a0 : ByteArray) : Option (ByteArray) := if (a0.size : Int) > 100 then (if 0 ≤ 100 then (if 100 ≤ (a0.size : Int) then (some (a0.extract 0 100)) else (none)) else (none)) else (some a0)
set_option maxHeartbeats 8000000 in
set_option maxRecDepth 100000 in
theorem tolllaw01_Few.calls (a0 : ByteArray) (r : ByteArray) (w : World) (h : tolllaw01_Few.f a0 = some r) :
  Calls Tryd.prog 14 #[.string a0] w fun e w' => e = .returned (.string r) ∧ Drawn0 w w' := by
 have H : (if (a0.size : Int) > 100 then (if 0 ≤ 100 then (if 100 ≤ (a0.size : Int) then (some (a0.extract 0 100)) else (none)) else (none)) else (some a0)) = some r := h
 clear h
 by_cases c2 : (a0.size : Int) > 100
 ·rw [if_pos c2] at H
  have c2b0 : decide (100 < (a0.size : Int)) = true := decide_eq_true c2
  have c2b1 : decide (100 < a0.size) = true := decide_eq_true (by omega)
  clear c2
  by_cases c3 : 0 ≤ 100
  ·rw [if_pos c3] at H
   have c3b0 := eq_true c3
   have c3b1 : decide (0 ≤ 100) = true := decide_eq_true c3
   clear c3
   by_cases c4 : 100 ≤ (a0.size : Int)
   ·rw [if_pos c4] at H
    have c4b0 := eq_true c4
    have c4b1 : decide (100 ≤ (a0.size : Int)) = true := decide_eq_true c4
    clear c4
    obtain rfl := Option.some.inj H
    go_enter Tryd.func14, Tryd.ntmps14
    go_wp2
    go_ret
    exact ⟨by first | rfl | (simp; done) | (simp [*]; done) | (simp [bne_nil_isEmpty, beq_nil_isEmpty]; done) | (simp [*, bne_nil_isEmpty, beq_nil_isEmpty]; done), by repeat (first | exact Drawn0.refl _ | apply Drawn0.step)⟩
   ·rw [if_neg c4] at H
    exact absurd H (by simp)
  ·rw [if_neg c3] at H
   exact absurd H (by simp)
 ·rw [if_neg c2] at H
  have c2b0 : decide (100 < (a0.size : Int)) = false := decide_eq_false c2
  have c2b1 : decide (100 < a0.size) = false := decide_eq_false (by omega)
  clear c2
  obtain rfl := Option.some.inj H
  go_enter Tryd.func14, Tryd.ntmps14
  go_wp2
  go_ret
  exact ⟨by first | rfl | (simp; done) | (simp [*]; done) | (simp [bne_nil_isEmpty, beq_nil_isEmpty]; done) | (simp [*, bne_nil_isEmpty, beq_nil_isEmpty]; done), by repeat (first | exact Drawn0.refl _ | apply Drawn0.step)⟩

/-! ### tolllaw05_Few: function 31 -/
mutual
def tolllaw05_Few.l0 : Nat → List (S35) → List (S35) → Int → Option ((List (S35)))
 | 0, _, _, _ => none
 | k + 1, x0, x3, x4 => if x4 < (x0.length : Int) then (tolllaw05_Few.j1 k x0 x3 x4 (decide (x4 < 31))) else (tolllaw05_Few.j1 k x0 x3 x4 false)
def tolllaw05_Few.j1 : Nat → List (S35) → List (S35) → Int → Bool → Option ((List (S35)))
 | 0, _, _, _, _ => none
 | k + 1, x0, x3, x4, x12 => if x12 = true then (if 0 ≤ x4 then (if x4 < (x0.length : Int) then ((tolllaw01_Few.f ((rd_T35 x0 x4).f0)).bind fun t365 => ((tolllaw01_Few.f ((rd_T35 x0 x4).f1)).bind fun t367 => (if x3.length < 4398046511104 then (tolllaw05_Few.l0 k x0 (x3 ++ [(⟨t365, t367⟩ : S35)]) (wrap64 (x4 + 1))) else (none)))) else (none)) else (none)) else (some x3)
end
def tolllaw05_Few.f (k : Nat) (l0 : List (S35)) : Option ((List (S35))) := tolllaw05_Few.l0 k l0 ([] : List (S35)) 0
theorem tolllaw05_Few.mono_l : ∀ k, (∀ y0 y1 y2, LeO (tolllaw05_Few.l0 k y0 y1 y2) (tolllaw05_Few.l0 (k + 1) y0 y1 y2)) ∧ (∀ y0 y1 y2 y3, LeO (tolllaw05_Few.j1 k y0 y1 y2 y3) (tolllaw05_Few.j1 (k + 1) y0 y1 y2 y3))
 | 0 => ⟨fun _ _ _ r h => by simp [tolllaw05_Few.l0] at h, fun _ _ _ _ r h => by simp [tolllaw05_Few.j1] at h⟩
 | k + 1 => by
  obtain ⟨ih0, ih1⟩ := tolllaw05_Few.mono_l k
  refine ⟨?_, ?_⟩
  ·intro y0 y1 y2
   unfold tolllaw05_Few.l0
   repeat' first
   | (with_reducible exact ih0 _ _ _)
   | (with_reducible exact ih1 _ _ _ _)
   | (with_reducible exact LeO.refl _)
   | (with_reducible exact LeO.none _)
   | (with_reducible refine LeO.ite ?_ ?_)
   | (with_reducible refine LeO.bind ?_ (fun _ => ?_))
   | exact ih0 _ _ _
   | exact ih1 _ _ _ _
   | exact LeO.none _
   | refine LeO.ite ?_ ?_
   | refine LeO.bind ?_ (fun _ => ?_)
  ·intro y0 y1 y2 y3
   unfold tolllaw05_Few.j1
   repeat' first
   | (with_reducible exact ih0 _ _ _)
   | (with_reducible exact ih1 _ _ _ _)
   | (with_reducible exact LeO.refl _)
   | (with_reducible exact LeO.none _)
   | (with_reducible refine LeO.ite ?_ ?_)
   | (with_reducible refine LeO.bind ?_ (fun _ => ?_))
   | exact ih0 _ _ _
   | exact ih1 _ _ _ _
   | exact LeO.none _
   | refine LeO.ite ?_ ?_
   | refine LeO.bind ?_ (fun _ => ?_)
theorem tolllaw05_Few.mono : ∀ a0 k, LeO (tolllaw05_Few.f k a0) (tolllaw05_Few.f (k + 1) a0) := by
 intro a0 k
 obtain ⟨ih0, ih1⟩ := tolllaw05_Few.mono_l k
 unfold tolllaw05_Few.f
 repeat' first
   | (with_reducible exact ih0 _ _ _)
   | (with_reducible exact ih1 _ _ _ _)
   | (with_reducible exact LeO.refl _)
   | (with_reducible exact LeO.none _)
   | (with_reducible refine LeO.ite ?_ ?_)
   | (with_reducible refine LeO.bind ?_ (fun _ => ?_))
   | exact ih0 _ _ _
   | exact ih1 _ _ _ _
   | exact LeO.none _
   | refine LeO.ite ?_ ?_
   | refine LeO.bind ?_ (fun _ => ?_)
def tolllaw05_Few.T5 : Bool × List (List Nat × List Nat) := (true, [([], []), ([], []), ([], []), ([1, 2], [1, 2]), ([3], [3]), ([4], [4]), ([5], [5]), ([], []), ([], []), ([7, 8], [7, 8]), ([9], [9]), ([10], [10]), ([11, 6], [11]), ([6, 12], [6, 12]), ([13], [13]), ([0, 14, 12], [0, 14]), ([15, 15, 0, 1, 2, 3, 4, 5, 6, 7, 8, 9, 10, 11, 12, 13, 14, 15], [0, 15])])
def tolllaw05_Few.B5 : List Nat := [0, 0, 0, 6, 14, 30, 62, 0, 0, 384, 896, 1920, 4094, 8190, 16382, 32767, 65535]
theorem tolllaw05_Few.tab5 : rtab .any (opsOf Tryd.f31 5) = tolllaw05_Few.T5 := by kernel_rfl
theorem tolllaw05_Few.bits5 : waitsOk tolllaw05_Few.T5.2 tolllaw05_Few.B5 = true := by kernel_rfl
set_option maxHeartbeats 8000000 in
set_option maxRecDepth 100000 in
theorem tolllaw05_Few.calls (k : Nat) (A0 : Option Addr) (c0 : Nat) (l0 : List (S35)) (r : List (S35)) (w : World) (hr0 : Kd.C k35 w A0 l0.length l0) (hc0 : l0.length ≤ c0) (h : tolllaw05_Few.f k l0 = some r) :
  Calls Tryd.prog 31 #[.slice A0 l0.length c0] w fun e w' => ∃ v0_ : Value, e = .returned (v0_) ∧ Kd.R k35 35 w' w.heap.size (fun _ => True) v0_ r ∧ Below w.heap.size w w' := by
 have hu35 := Tryd.underlying35
 have HR0 := Aside0.mk hr0
 have HC0 := Aside0.mk hc0
 clear hr0 hc0
 have HB := am_ (Below.refl w.heap.size w)
 have H : (tolllaw05_Few.l0 k l0 ([] : List (S35)) 0) = some r := h
 clear h
 have H' := Aside0.mk H
 clear H
 go_enter Tryd.func31, Tryd.ntmps31
 go_wp2
 go_loopg [3, 4] k (fun kq v3 v4 w' => ∃ (x3_1 : List (S35)) (x4_1 : Int), v4 = .int .i64 x4_1 ∧ Aside0 (tolllaw05_Few.l0 kq l0 x3_1 x4_1 = some r) ∧ Aside0 (kq ≤ k) ∧ Aside0 (Kd.R k35 35 w' w.heap.size (fun _ => True) v3 x3_1) ∧ Aside0 (Below w.heap.size w w'))
 case atStart => exact ⟨(([] : List (S35))), (0), sd_, H', ⟨Nat.le_refl _⟩, ⟨by first | exact Kd.R_nil _ _ _ _ _ | exact Kd.N_nil _ _ _ _ _ | exact Kd.V_nil _ _ _ _ _ | exact Kd.Q_nil _ _ _ _ _ | exact Kd.S_nil _ _ _ _ _⟩, ⟨bel_ HB.out⟩⟩
 case round =>
  clear H'
  obtain ⟨x3_1, x4_1, rfl, HA, HK1, HO_3, HB⟩ := hrel
  cases gk with
  | zero => exact absurd HA.out (by simp [tolllaw05_Few.l0])
  | succ k1 =>
   have H := HA.out
   clear HA
   simp only [tolllaw05_Few.l0] at H
   have HC2 := Aside0.mk H
   clear H
   go_upto_region 3 with (fail)
   go_cut [12] (fun v12 wc => ∃ (kq : Nat) (x12_1 : Bool), v12 = .bool x12_1 ∧ Aside0 (tolllaw05_Few.j1 kq l0 x3_1 x4_1 x12_1 = some r) ∧ Aside0 (kq ≤ k1) ∧ Aside0 (Kd.R k35 35 wc w.heap.size (fun _ => True) u3 x3_1) ∧ Aside0 (Below w.heap.size w wc))
   case first =>
    have H := HC2.out
    clear HC2
    by_cases c3 : x4_1 < (l0.length : Int)
    ·rw [if_pos c3] at H
     have c3b0 : decide (x4_1 < (l0.length : Int)) = true := decide_eq_true c3
     clear c3
     (first | rw [c3b0] | rw [c3b1] | rw [c3b2] | (simp only [i64_w, i32_w]; rw [c3b0]) | skip)
     have H' := Aside0.mk H
     clear H
     go_wp2
     go_meet
     case rel => exact ⟨_, (decide (x4_1 < 31)), sd_, H', ⟨by have := HK1.out; first | omega | exact Nat.le_refl _⟩, ⟨by (with_reducible repeat (first | apply Kd.R_alloc | apply Kd.R_drewN | apply Kd.R_drew)); exact HO_3.out⟩, ⟨bel_ HB.out⟩⟩
    ·rw [if_neg c3] at H
     have c3b0 : decide (x4_1 < (l0.length : Int)) = false := decide_eq_false c3
     clear c3
     (first | rw [c3b0] | rw [c3b1] | rw [c3b2] | (simp only [i64_w, i32_w]; rw [c3b0]) | skip)
     have H' := Aside0.mk H
     clear H
     go_wp2
     go_meet
     case rel => exact ⟨_, (false), sd_, H', ⟨by have := HK1.out; first | omega | exact Nat.le_refl _⟩, ⟨by (with_reducible repeat (first | apply Kd.R_alloc | apply Kd.R_drewN | apply Kd.R_drew)); exact HO_3.out⟩, ⟨bel_ HB.out⟩⟩
   case rest =>
    clear HC2
    try clear p2
    try clear c3
    try clear c3b0
    try clear c3b1
    try clear c3b2
    obtain ⟨kq, x12_1, rfl, HA, HJ1, HO_3, HB⟩ := hcut
    cases kq with
    | zero => exact absurd HA.out (by simp [tolllaw05_Few.j1])
    | succ kj1 =>
     have H := HA.out
     clear HA
     simp only [tolllaw05_Few.j1] at H
     by_cases c4 : x12_1 = true
     ·subst c4
      have H1 : (if 0 ≤ x4_1 then (if x4_1 < (l0.length : Int) then ((tolllaw01_Few.f ((rd_T35 l0 x4_1).f0)).bind fun t365 => ((tolllaw01_Few.f ((rd_T35 l0 x4_1).f1)).bind fun t367 => (if x3_1.length < 4398046511104 then (tolllaw05_Few.l0 kj1 l0 (x3_1 ++ [(⟨t365, t367⟩ : S35)]) (wrap64 (x4_1 + 1))) else (none)))) else (none)) else (none)) = some r := by rw [if_pos rfl] at H; exact H
      clear H
      have H := H1
      clear H1
      by_cases c5 : 0 ≤ x4_1
      ·rw [if_pos c5] at H
       have c5b0 : decide (0 ≤ x4_1) = true := decide_eq_true c5
       clear c5
       by_cases c6 : x4_1 < (l0.length : Int)
       ·rw [if_pos c6] at H
        have c6b0 : decide (x4_1 < (l0.length : Int)) = true := decide_eq_true c6
        clear c6
        replace H := Option.bind_eq_some_iff.mp H
        obtain ⟨t365, A70, H⟩ := H
        replace H : ((tolllaw01_Few.f ((rd_T35 l0 x4_1).f1)).bind fun t367 => (if x3_1.length < 4398046511104 then (tolllaw05_Few.l0 kj1 l0 (x3_1 ++ [(⟨t365, t367⟩ : S35)]) (wrap64 (x4_1 + 1))) else (none))) = some r := H
        have A7 := Aside0.mk A70
        clear A70
        replace H := Option.bind_eq_some_iff.mp H
        obtain ⟨t367, A80, H⟩ := H
        replace H : (if x3_1.length < 4398046511104 then (tolllaw05_Few.l0 kj1 l0 (x3_1 ++ [(⟨t365, t367⟩ : S35)]) (wrap64 (x4_1 + 1))) else (none)) = some r := H
        have A8 := Aside0.mk A80
        clear A80
        by_cases c9 : x3_1.length < 4398046511104
        ·rw [if_pos c9] at H
         have LMc9 := Aside0.mk c9
         clear c9
         obtain ⟨y368, hy368⟩ : ∃ y_ : List (S35), y_ = (x3_1 ++ [(⟨t365, t367⟩ : S35)]) := ⟨_, rfl⟩
         replace H : (tolllaw05_Few.l0 kj1 l0 y368 (wrap64 (x4_1 + 1))) = some r := by first | (rw [hy368]; with_reducible exact H) | (have H2_ := (Option.bind_some _ _).symm.trans H; rw [hy368]; with_reducible exact H2_) | (have H2_ := (Option.bind_some _ _).symm.trans H; with_reducible exact H2_) | with_reducible exact H | (rw [hy368]; exact H) | exact H
         have Ny368 := Aside0.mk hy368
         clear hy368
         have H' := Aside0.mk H
         clear H
         try go_wp2
         have n0_ := am_ (Kd.R_drew HO_3.out)
         have n1_ := am_ (below_drew1 HB.out)
         clear HO_3 HB
         have HO_3 := n0_
         have HB := n1_
         clear n0_ n1_
         have p364 : 0 ≤ (x4_1 : Int) := of_decide_eq_true as_
         have q364 : x4_1 < (l0.length : Int) := of_decide_eq_true as_
         obtain ⟨ad364, e364, hx364_0, hx364_1⟩ := at_T35 HR0.out x4_1 p364 q364
         have hw364_1 := hx364_1
         have hw364_0 := hx364_0
         cases e364
         replace hx364_0 := (HB.out.cell (World.block_lt_of_cell? w _ hx364_0)).trans hx364_0
         replace hx364_1 := (HB.out.cell (World.block_lt_of_cell? w _ hx364_1)).trans hx364_1
         replace p364 := eq_true p364
         replace q364 := eq_true q364
         have p366 : 0 ≤ (x4_1 : Int) := of_decide_eq_true as_
         have q366 : x4_1 < (l0.length : Int) := of_decide_eq_true as_
         obtain ⟨ad366, e366, hx366_0, hx366_1⟩ := at_T35 HR0.out x4_1 p366 q366
         have hw366_1 := hx366_1
         have hw366_0 := hx366_0
         obtain rfl : ad364 = ad366 := (by injection e366)
         replace hx366_0 := (HB.out.cell (World.block_lt_of_cell? w _ hx366_0)).trans hx366_0
         replace hx366_1 := (HB.out.cell (World.block_lt_of_cell? w _ hx366_1)).trans hx366_1
         replace p366 := eq_true p366
         replace q366 := eq_true q366
         refine start_ (n := 17) (S := fun w' => w'.cell? (ad364.add ((x4_1).toNat * 2)) = some (.string ((rd_T35 l0 x4_1).f0)) ∧ w'.cell? ⟨(ad364.add ((x4_1).toNat * 2)).block, (ad364.add ((x4_1).toNat * 2)).off + 1, none⟩ = some (.string ((rd_T35 l0 x4_1).f1)) ∧ w'.cell? (ad364.add ((x4_1).toNat * 2)) = some (.string ((rd_T35 l0 x4_1).f0)) ∧ w'.cell? ⟨(ad364.add ((x4_1).toNat * 2)).block, (ad364.add ((x4_1).toNat * 2)).off + 1, none⟩ = some (.string ((rd_T35 l0 x4_1).f1))) (ds := []) #[false, false, false, false, false, false, false, false, false, false, false, false, false, false, false, false, false] kr_ rfl rfl ⟨((HB.out.cell (World.block_lt_of_cell? w _ hw364_0)).trans hw364_0), ((HB.out.cell (World.block_lt_of_cell? w _ hw364_1)).trans hw364_1), ((HB.out.cell (World.block_lt_of_cell? w _ hw366_0)).trans hw366_0), ((HB.out.cell (World.block_lt_of_cell? w _ hw366_1)).trans hw366_1)⟩ (fun hHeld => ?_); refine with_tabW tolllaw05_Few.tab5 tolllaw05_Few.bits5 (fun HT_ HW_ => ?_)
         generalize wc.drew = w10 at HO_3 HB hx364_0 hx364_1 hx366_0 hx366_1 hHeld ⊢
         refine pure_ (i := 0) (N := some 15) (v := ?_) (a' := ?_) #[true, false, false, false, false, false, false, false, false, false, false, false, false, false, false, false, false] rfl rfl (any_of HT_.out kr_) (fun _ _ _ h => h) (Or.inl ⟨by rfl, ?_⟩) ?_ ?_
         rotate_left
         ·intro w'
          go_simp
          with_reducible rfl
         rotate_left
         ·simp only [Act.put, sx_, s0_, s1_, i64_w, i32_w]
          rfl
         refine pure_ (i := 1) (N := some 16) (v := ?_) (a' := ?_) #[true, true, false, false, false, false, false, false, false, false, false, false, false, false, false, false, false] rfl rfl (any_of HT_.out kr_) (fun _ _ _ h => h) (Or.inl ⟨by rfl, ?_⟩) ?_ ?_
         rotate_left
         ·intro w'
          go_simp
          with_reducible rfl
         rotate_left
         ·simp only [Act.put, sx_, s0_, s1_, i64_w, i32_w]
          rfl
         refine pure_ (i := 2) (N := some 17) (v := ?_) (a' := ?_) #[true, true, true, false, false, false, false, false, false, false, false, false, false, false, false, false, false] rfl rfl (any_of HT_.out kr_) (fun _ _ _ h => h) (Or.inl ⟨by rfl, ?_⟩) ?_ ?_
         rotate_left
         ·intro w'
          go_simp
          with_reducible rfl
         rotate_left
         ·simp only [Act.put, sx_, s0_, s1_, i64_w, i32_w]
          rfl
         refine pure_ (i := 3) (N := some 18) (v := ?_) (a' := ?_) #[true, true, true, true, false, false, false, false, false, false, false, false, false, false, false, false, false] rfl rfl (any_of HT_.out kr_) (fun _ _ _ h => h) (Or.inl ⟨by rfl, ?_⟩) ?_ ?_
         rotate_left
         ·intro w'
          go_simp
          with_reducible rfl
         rotate_left
         ·simp only [Act.put, sx_, s0_, s1_, i64_w, i32_w]
          rfl
         refine pure_ (i := 4) (N := some 19) (v := ?_) (a' := ?_) #[true, true, true, true, true, false, false, false, false, false, false, false, false, false, false, false, false] rfl rfl (any_of HT_.out kr_) (fun _ _ _ h => h) (Or.inl ⟨by rfl, ?_⟩) ?_ ?_
         rotate_left
         ·intro w'
          go_simp
          with_reducible rfl
         rotate_left
         ·simp only [Act.put, sx_, s0_, s1_, i64_w, i32_w]
          rfl
         refine pure_ (i := 7) (N := some 22) (v := ?_) (a' := ?_) #[true, true, true, true, true, false, false, true, false, false, false, false, false, false, false, false, false] rfl rfl (any_of HT_.out kr_) (fun _ _ _ h => h) (Or.inl ⟨by rfl, ?_⟩) ?_ ?_
         rotate_left
         ·intro w'
          go_simp
          with_reducible rfl
         rotate_left
         ·simp only [Act.put, sx_, s0_, s1_, i64_w, i32_w]
          rfl
         refine pure_ (i := 8) (N := some 23) (v := ?_) (a' := ?_) #[true, true, true, true, true, false, false, true, true, false, false, false, false, false, false, false, false] rfl rfl (any_of HT_.out kr_) (fun _ _ _ h => h) (Or.inl ⟨by rfl, ?_⟩) ?_ ?_
         rotate_left
         ·intro w'
          go_simp
          with_reducible rfl
         rotate_left
         ·simp only [Act.put, sx_, s0_, s1_, i64_w, i32_w]
          rfl
         refine pure_ (i := 9) (N := some 24) (v := ?_) (a' := ?_) #[true, true, true, true, true, false, false, true, true, true, false, false, false, false, false, false, false] rfl rfl (any_of HT_.out kr_) (fun _ _ _ h => h) (Or.inl ⟨by rfl, ?_⟩) ?_ ?_
         rotate_left
         ·intro w'
          go_simp
          with_reducible rfl
         rotate_left
         ·simp only [Act.put, sx_, s0_, s1_, i64_w, i32_w]
          rfl
         refine pure_ (i := 10) (N := some 25) (v := ?_) (a' := ?_) #[true, true, true, true, true, false, false, true, true, true, true, false, false, false, false, false, false] rfl rfl (any_of HT_.out kr_) (fun _ _ _ h => h) (Or.inl ⟨by rfl, ?_⟩) ?_ ?_
         rotate_left
         ·intro w'
          go_simp
          with_reducible rfl
         rotate_left
         ·simp only [Act.put, sx_, s0_, s1_, i64_w, i32_w]
          rfl
         refine take_ (i := 5) (N := some 20) (v := ?_) (a' := ?_) #[true, true, true, true, true, true, false, true, true, true, true, false, false, false, false, false, false] rfl rfl (take_ofW HT_.out HW_.out kr_) (fun _ _ _ h => h) (Or.inl ⟨by rfl, ?_⟩) hHeld ?_ ?_
         rotate_left
         ·rintro w' ⟨s0, s1, s2, s3⟩
          go_simp
          with_reducible rfl
         rotate_left
         ·simp only [Act.put, sx_, s0_, s1_, i64_w, i32_w]
          rfl
         refine take_ (i := 11) (N := some 26) (v := ?_) (a' := ?_) #[true, true, true, true, true, true, false, true, true, true, true, true, false, false, false, false, false] rfl rfl (take_ofW HT_.out HW_.out kr_) (fun _ _ _ h => h) (Or.inl ⟨by rfl, ?_⟩) hHeld ?_ ?_
         rotate_left
         ·rintro w' ⟨s0, s1, s2, s3⟩
          go_simp
          with_reducible rfl
         rotate_left
         ·simp only [Act.put, sx_, s0_, s1_, i64_w, i32_w]
          rfl
         refine one_ (i := 6) (N := some 21) #[true, true, true, true, true, true, true, true, true, true, true, true, false, false, false, false, false] rfl rfl (one_of HT_.out kr_) (by decide) (fun K hK => ?_)
         refine goes_ Tryd.func14 kr_ rfl #[.string ((rd_T35 l0 x4_1).f0)] (by rfl) rfl rfl rl_ ?_
         with_reducible refine (tolllaw01_Few.calls ((rd_T35 l0 x4_1).f0) t365 _ A7.out).mono ?_
         rintro e w' ⟨rfl, ⟨nd, rfl⟩⟩
         refine ⟨_, rfl, ?_⟩
         refine hK.out _ _ ⟨((HB.out.cell (World.block_lt_of_cell? w _ hw364_0)).trans hw364_0), ((HB.out.cell (World.block_lt_of_cell? w _ hw364_1)).trans hw364_1), ((HB.out.cell (World.block_lt_of_cell? w _ hw366_0)).trans hw366_0), ((HB.out.cell (World.block_lt_of_cell? w _ hw366_1)).trans hw366_1)⟩ (fun hHeld => ?_)
         clear hK K
         refine norm_ (a' := ?_) ?_ ?_
         rotate_left
         ·show Act.put _ (some 21) _ = _
          simp only [Act.put, sx_, s0_, s1_, i64_w, i32_w]
          rfl
         refine one_ (i := 12) (N := some 27) #[true, true, true, true, true, true, true, true, true, true, true, true, true, false, false, false, false] rfl rfl (one_of HT_.out kr_) (by decide) (fun K hK => ?_)
         refine goes_ Tryd.func14 kr_ rfl #[.string ((rd_T35 l0 x4_1).f1)] (by rfl) rfl rfl rl_ ?_
         with_reducible refine (tolllaw01_Few.calls ((rd_T35 l0 x4_1).f1) t367 _ A8.out).mono ?_
         rintro e w' ⟨rfl, ⟨nd, rfl⟩⟩
         refine ⟨_, rfl, ?_⟩
         refine hK.out _ _ ⟨((HB.out.cell (World.block_lt_of_cell? w _ hw364_0)).trans hw364_0), ((HB.out.cell (World.block_lt_of_cell? w _ hw364_1)).trans hw364_1), ((HB.out.cell (World.block_lt_of_cell? w _ hw366_0)).trans hw366_0), ((HB.out.cell (World.block_lt_of_cell? w _ hw366_1)).trans hw366_1)⟩ (fun hHeld => ?_)
         clear hK K
         refine norm_ (a' := ?_) ?_ ?_
         rotate_left
         ·show Act.put _ (some 27) _ = _
          simp only [Act.put, sx_, s0_, s1_, i64_w, i32_w]
          rfl
         refine pure_ (i := 13) (N := some 28) (v := ?_) (a' := ?_) #[true, true, true, true, true, true, true, true, true, true, true, true, true, true, false, false, false] rfl rfl (any_of HT_.out kr_) (fun _ _ _ h => h) (Or.inl ⟨by rfl, ?_⟩) ?_ ?_
         rotate_left
         ·intro w'
          go_simp
          with_reducible rfl
         rotate_left
         ·simp only [Act.put, sx_, s0_, s1_, i64_w, i32_w]
          rfl
         refine one_ (i := 14) (N := some 29) #[true, true, true, true, true, true, true, true, true, true, true, true, true, true, true, false, false] rfl rfl (one_of HT_.out kr_) (by decide) (fun K hK => ?_)
         refine value_ (w1 := ?_) (v := ?_) (by rfl) rfl ?_ ?_
         rotate_left 2
         ·go_simp
          constructor
          ·rfl
          ·rfl
         refine hK.out _ _ ⟨(World.cell?_alloc_lt _ _ _ (World.block_lt_of_cell? _ _ (((HB.out.cell (World.block_lt_of_cell? w _ hw364_0)).trans hw364_0)))).trans (((HB.out.cell (World.block_lt_of_cell? w _ hw364_0)).trans hw364_0)), (World.cell?_alloc_lt _ _ _ (World.block_lt_of_cell? _ _ (((HB.out.cell (World.block_lt_of_cell? w _ hw364_1)).trans hw364_1)))).trans (((HB.out.cell (World.block_lt_of_cell? w _ hw364_1)).trans hw364_1)), (World.cell?_alloc_lt _ _ _ (World.block_lt_of_cell? _ _ (((HB.out.cell (World.block_lt_of_cell? w _ hw366_0)).trans hw366_0)))).trans (((HB.out.cell (World.block_lt_of_cell? w _ hw366_0)).trans hw366_0)), (World.cell?_alloc_lt _ _ _ (World.block_lt_of_cell? _ _ (((HB.out.cell (World.block_lt_of_cell? w _ hw366_1)).trans hw366_1)))).trans (((HB.out.cell (World.block_lt_of_cell? w _ hw366_1)).trans hw366_1))⟩ (fun hHeld => ?_)
         clear hK K
         refine norm_ (a' := ?_) ?_ ?_
         rotate_left
         ·show Act.put _ (some 29) _ = _
          simp only [Act.put, sx_, s0_, s1_, i64_w, i32_w]
          rfl
         refine one_ (i := 15) (N := some 30) #[true, true, true, true, true, true, true, true, true, true, true, true, true, true, true, true, false] rfl rfl (one_of HT_.out kr_) (by decide) (fun K hK => ?_)
         refine Kd.R_append_step k35 (w0 := w) w.heap.size (by rfl) (.tmp 15) (.tmp 29) 24 35 (.agg #[(.string ⟨#[]⟩), (.string ⟨#[]⟩)]) 32 rfl Tryd.underlying24 info35 rfl (by decide) (by omega) u3 x3_1 (⟨t365, t367⟩ : S35) [.string t365, .string t367] (fun _ => True) (fun _ => False) rfl rfl ?aP (fun _ hk => hk.elim) ?aF ?aO ?aB ?aS ?aL ?_
         (case aP => exact k35_mkM _ _ _ (⟨t365, t367⟩ : S35))
         (case aB => exact (bel_ HB.out))
         (case aF => exact (fun _ _ => trivial))
         (case aO => exact (R_ HO_3.out))
         (case aS => exact (below_size (bel_ HB.out)))
         (case aL => have := LMc9.out; omega)
         intro v369 w11 ho hb hg hat
         rw [← Ny368.out] at ho
         have n0_ := am_ (hb)
         have n1_ := am_ (ho)
         clear HB HO_3
         have HB := n0_
         have HO370 := n1_
         clear n0_ n1_ ho hb hg hat
         refine hK.out _ _ ⟨((HB.out.cell (World.block_lt_of_cell? w _ hw364_0)).trans hw364_0), ((HB.out.cell (World.block_lt_of_cell? w _ hw364_1)).trans hw364_1), ((HB.out.cell (World.block_lt_of_cell? w _ hw366_0)).trans hw366_0), ((HB.out.cell (World.block_lt_of_cell? w _ hw366_1)).trans hw366_1)⟩ (fun hHeld => ?_)
         clear hK K
         refine norm_ (a' := ?_) ?_ ?_
         rotate_left
         ·show Act.put _ (some 30) _ = _
          simp only [Act.put, sx_, s0_, s1_, i64_w, i32_w]
          rfl
         refine pure_ (i := 16) (N := some 3) (v := ?_) (a' := ?_) #[true, true, true, true, true, true, true, true, true, true, true, true, true, true, true, true, true] rfl rfl (any_of HT_.out kr_) (fun _ _ _ h => h) (Or.inl ⟨by rfl, ?_⟩) ?_ ?_
         rotate_left
         ·intro w'
          go_simp
          with_reducible rfl
         rotate_left
         ·simp only [Act.put, sx_, s0_, s1_, i64_w, i32_w]
          rfl
         refine done_ (done_of HT_.out kr_) ?_
         try go_wp2
         go_roundg kj1
         case measure => have := HK1.out; have := HJ1.out; omega
         case rel => exact ⟨(y368), (wrap64 (x4_1 + 1)), sd_, H', ⟨by have := HK1.out; have := HJ1.out; omega⟩, ⟨by (with_reducible repeat (first | apply Kd.R_alloc | apply Kd.R_drewN | apply Kd.R_drew)); exact HO370.out⟩, ⟨bel_ HB.out⟩⟩
        ·rw [if_neg c9] at H
         exact absurd H (by simp)
       ·rw [if_neg c6] at H
        exact absurd H (by simp)
      ·rw [if_neg c5] at H
       exact absurd H (by simp)
     ·replace c4 := Bool.eq_false_iff.mpr c4
      subst c4
      have H1 : (some x3_1) = some r := by rw [if_neg (show ¬ (false = true) by decide)] at H; exact H
      clear H
      have H := H1
      clear H1
      obtain rfl := Option.some.inj H
      go_wp2
      go_ret
      exact ⟨_, by first | rfl | (simp [errW_none, errW_some] <;> rfl) | (simp [*, errW_none, errW_some] <;> rfl), by (with_reducible repeat (first | apply Kd.R_alloc | apply Kd.R_drewN | apply Kd.R_drew)); exact HO_3.out, bel_ HB.out⟩

/-! ### tolllaw06_Asked: function 13 -/
def tolllaw06_Asked.f (k : Nat) (a0_0 : ByteArray) (a0_1 : ByteArray) (a0_2 : ByteArray) (l0_3 : List (S35)) (l0_4 : List (S35)) : Option (ByteArray × ByteArray × ByteArray × (List (S35)) × (List (S35))) := (tolllaw01_Few.f a0_0).bind fun t373 => ((tolllaw01_Few.f a0_1).bind fun t374 => ((tolllaw01_Few.f a0_2).bind fun t375 => ((tolllaw05_Few.f k l0_3).bind fun t376 => ((tolllaw05_Few.f k l0_4).bind fun t379 => (some (t373, t374, t375, t376, t379))))))
theorem tolllaw06_Asked.mono : ∀ a0 a1 a2 a3 a4 k, LeO (tolllaw06_Asked.f k a0 a1 a2 a3 a4) (tolllaw06_Asked.f (k + 1) a0 a1 a2 a3 a4) := by
 intro a0 a1 a2 a3 a4 k
 unfold tolllaw06_Asked.f
 repeat' first
   | (with_reducible exact tolllaw05_Few.mono _ _)
   | (with_reducible exact LeO.refl _)
   | (with_reducible exact LeO.none _)
   | (with_reducible refine LeO.ite ?_ ?_)
   | (with_reducible refine LeO.bind ?_ (fun _ => ?_))
   | exact tolllaw05_Few.mono _ _
   | exact LeO.none _
   | refine LeO.ite ?_ ?_
   | refine LeO.bind ?_ (fun _ => ?_)
def tolllaw06_Asked.T1 : Bool × List (List Nat × List Nat) := (true, [([], []), ([0], [0]), ([1], [1]), ([], []), ([3], [3]), ([4, 2], [4]), ([], []), ([6], [6]), ([7, 5], [7]), ([], []), ([9], [9]), ([10, 8], [10]), ([], []), ([12], [12]), ([13, 11], [13]), ([2, 5, 8, 11, 14], [2, 5, 8, 11, 14]), ([15, 14, 0, 1, 2, 3, 4, 5, 6, 7, 8, 9, 10, 11, 12, 13, 14, 15], [15])])
def tolllaw06_Asked.B1 : List Nat := [0, 1, 3, 0, 8, 31, 0, 64, 255, 0, 512, 2047, 0, 4096, 16383, 32767, 65535]
theorem tolllaw06_Asked.tab1 : rtab .any (opsOf Tryd.f13 1) = tolllaw06_Asked.T1 := by kernel_rfl
theorem tolllaw06_Asked.bits1 : waitsOk tolllaw06_Asked.T1.2 tolllaw06_Asked.B1 = true := by kernel_rfl
set_option maxHeartbeats 8000000 in
set_option maxRecDepth 100000 in
theorem tolllaw06_Asked.calls (k : Nat) (a0_0 : ByteArray) (a0_1 : ByteArray) (a0_2 : ByteArray) (A0_3 : Option Addr) (c0_3 : Nat) (l0_3 : List (S35)) (A0_4 : Option Addr) (c0_4 : Nat) (l0_4 : List (S35)) (r1 : ByteArray) (r2 : ByteArray) (r3 : ByteArray) (r4 : List (S35)) (r5 : List (S35)) (w : World) (hr0_3 : Kd.C k35 w A0_3 l0_3.length l0_3) (hc0_3 : l0_3.length ≤ c0_3) (hr0_4 : Kd.C k35 w A0_4 l0_4.length l0_4) (hc0_4 : l0_4.length ≤ c0_4) (h : tolllaw06_Asked.f k a0_0 a0_1 a0_2 l0_3 l0_4 = some (r1, r2, r3, r4, r5)) :
  Calls Tryd.prog 13 #[.agg #[.string a0_0, .string a0_1, .string a0_2, .slice A0_3 l0_3.length c0_3, .slice A0_4 l0_4.length c0_4]] w fun e w' => ∃ v3_ v4_ : Value, e = .returned (.agg #[.string r1, .string r2, .string r3, v3_, v4_]) ∧ Kd.R k35 35 w' w.heap.size (fun k_ => some k_ ≠ (v4_ : Value).ownBlock) v3_ r4 ∧ Kd.R k35 35 w' w.heap.size (fun k_ => some k_ ≠ (v3_ : Value).ownBlock) v4_ r5 ∧ Below w.heap.size w w' := by
 have hu26 := Tryd.underlying26
 have HR0_3 := Aside0.mk hr0_3
 have HC0_3 := Aside0.mk hc0_3
 clear hr0_3 hc0_3
 have HR0_4 := Aside0.mk hr0_4
 have HC0_4 := Aside0.mk hc0_4
 clear hr0_4 hc0_4
 have HB := am_ (Below.refl w.heap.size w)
 have H : ((tolllaw01_Few.f a0_0).bind fun t373 => ((tolllaw01_Few.f a0_1).bind fun t374 => ((tolllaw01_Few.f a0_2).bind fun t375 => ((tolllaw05_Few.f k l0_3).bind fun t376 => ((tolllaw05_Few.f k l0_4).bind fun t379 => (some (t373, t374, t375, t376, t379))))))) = some (r1, r2, r3, r4, r5) := h
 clear h
 replace H := Option.bind_eq_some_iff.mp H
 obtain ⟨t373, A20, H⟩ := H
 replace H : ((tolllaw01_Few.f a0_1).bind fun t374 => ((tolllaw01_Few.f a0_2).bind fun t375 => ((tolllaw05_Few.f k l0_3).bind fun t376 => ((tolllaw05_Few.f k l0_4).bind fun t379 => (some (t373, t374, t375, t376, t379)))))) = some (r1, r2, r3, r4, r5) := H
 have A2 := Aside0.mk A20
 clear A20
 replace H := Option.bind_eq_some_iff.mp H
 obtain ⟨t374, A30, H⟩ := H
 replace H : ((tolllaw01_Few.f a0_2).bind fun t375 => ((tolllaw05_Few.f k l0_3).bind fun t376 => ((tolllaw05_Few.f k l0_4).bind fun t379 => (some (t373, t374, t375, t376, t379))))) = some (r1, r2, r3, r4, r5) := H
 have A3 := Aside0.mk A30
 clear A30
 replace H := Option.bind_eq_some_iff.mp H
 obtain ⟨t375, A40, H⟩ := H
 replace H : ((tolllaw05_Few.f k l0_3).bind fun t376 => ((tolllaw05_Few.f k l0_4).bind fun t379 => (some (t373, t374, t375, t376, t379)))) = some (r1, r2, r3, r4, r5) := H
 have A4 := Aside0.mk A40
 clear A40
 replace H := Option.bind_eq_some_iff.mp H
 obtain ⟨t376, A50, H⟩ := H
 replace H : ((tolllaw05_Few.f k l0_4).bind fun t379 => (some (t373, t374, t375, t376, t379))) = some (r1, r2, r3, r4, r5) := H
 have A5 := Aside0.mk A50
 clear A50
 replace H := Option.bind_eq_some_iff.mp H
 obtain ⟨t379, A60, H⟩ := H
 replace H : (some (t373, t374, t375, t376, t379)) = some (r1, r2, r3, r4, r5) := H
 have A6 := Aside0.mk A60
 clear A60
 simp only [Option.some.injEq, Prod.mk.injEq] at H
 obtain ⟨rfl, rfl, rfl, rfl, rfl⟩ := H
 go_enter Tryd.func13, Tryd.ntmps13
 try go_wp2_with (first | ((with_reducible refine gate_dst (N := 1) rfl ?_); refine box_event ?hg (N := 1) ?hd (cs := #[.string a0_0, .string a0_1, .string a0_2, .slice A0_3 l0_3.length c0_3, .slice A0_4 l0_4.length c0_4]) (t := 26) ?hr ?_; (case hd => rfl); (case hg => rfl); (case hr => first | (go_simp; done) | (go_simp; rfl)); intro gb371 hg w7 hbox hb; have n0_ := am_ (below_step (bel_ HB.out) hb); have n1_ := am_ (hbox); have n2_ := am_ ((by rw [hg]; exact (below_size (bel_ HB.out)) : w.heap.size ≤ gb371)); have n3_ := am_ ((by rw [hg]; exact (below_size (bel_ HB.out)) : w.heap.size ≤ gb371)); clear HB; have HB := n0_; have BK371 := n1_; have GW371 := n2_; have GE371 := n3_; clear n0_ n1_ n2_ n3_ hb hbox hg) | ((with_reducible refine gate_dst (N := 2) rfl ?_); refine box_event ?hg (N := 2) ?hd (cs := #[.string (⟨#[]⟩ : ByteArray), .string (⟨#[]⟩ : ByteArray), .string (⟨#[]⟩ : ByteArray), .slice none 0 0, .slice none 0 0]) (t := 26) ?hr ?_; (case hd => rfl); (case hg => rfl); (case hr => first | (go_simp; done) | (go_simp; rfl)); intro gb372 hg w8 hbox hb; have n0_ := am_ (blk_below (g := gb371) (o := .cells #[.string a0_0, .string a0_1, .string a0_2, .slice A0_3 l0_3.length c0_3, .slice A0_4 l0_4.length c0_4] 26 (0, 0)) (blk_ BK371.out) hb); have n1_ := am_ (below_step (bel_ HB.out) hb); have n2_ := am_ (hbox); have n3_ := am_ ((by rw [hg]; exact (below_size (bel_ HB.out)) : w.heap.size ≤ gb372)); have n4_ := am_ ((by rw [hg]; exact (below_size (bel_ HB.out)) : w.heap.size ≤ gb372)); have n5_ := am_ ((by rw [hg]; exact Nat.ne_of_lt (blk_lt (g := gb371) (o := .cells #[.string a0_0, .string a0_1, .string a0_2, .slice A0_3 l0_3.length c0_3, .slice A0_4 l0_4.length c0_4] 26 (0, 0)) (blk_ BK371.out)) : gb371 ≠ gb372)); have n6_ := am_ ((by rw [hg]; exact Nat.ne_of_gt (blk_lt (g := gb371) (o := .cells #[.string a0_0, .string a0_1, .string a0_2, .slice A0_3 l0_3.length c0_3, .slice A0_4 l0_4.length c0_4] 26 (0, 0)) (blk_ BK371.out)) : gb372 ≠ gb371)); clear BK371 HB; have BK371 := n0_; have HB := n1_; have BK372 := n2_; have GW372 := n3_; have GE372 := n4_; have NB371_372 := n5_; have NB372_371 := n6_; clear n0_ n1_ n2_ n3_ n4_ n5_ n6_ hb hbox hg))
 have n0_ := am_ (blk_drew BK371.out)
 have n1_ := am_ (blk_drew BK372.out)
 have n2_ := am_ (below_drew1 HB.out)
 clear BK371 BK372 HB
 have BK371 := n0_
 have BK372 := n1_
 have HB := n2_
 clear n0_ n1_ n2_
 refine start_ (n := 17) (S := fun w' => w'.cell? ⟨gb371, 0, none⟩ = some (.string a0_0) ∧ w'.cell? ⟨gb371, 1, none⟩ = some (.string a0_1) ∧ w'.cell? ⟨gb371, 2, none⟩ = some (.string a0_2) ∧ w'.cell? ⟨gb371, 3, none⟩ = some (.slice A0_3 l0_3.length c0_3) ∧ w'.cell? ⟨gb371, 4, none⟩ = some (.slice A0_4 l0_4.length c0_4)) (ds := []) #[false, false, false, false, false, false, false, false, false, false, false, false, false, false, false, false, false] kr_ rfl rfl ⟨(blk_cell BK371.out 0).trans rfl, (blk_cell BK371.out 1).trans rfl, (blk_cell BK371.out 2).trans rfl, (blk_cell BK371.out 3).trans rfl, (blk_cell BK371.out 4).trans rfl⟩ (fun hHeld => ?_); refine with_tabW tolllaw06_Asked.tab1 tolllaw06_Asked.bits1 (fun HT_ HW_ => ?_)
 generalize w8.drew = w9 at BK371 BK372 HB hHeld ⊢
 refine pure_ (i := 0) (N := some 3) (v := ?_) (a' := ?_) #[true, false, false, false, false, false, false, false, false, false, false, false, false, false, false, false, false] rfl rfl (any_of HT_.out kr_) (fun _ _ _ h => h) (Or.inl ⟨by rfl, ?_⟩) ?_ ?_
 rotate_left
 ·intro w'
  go_simp
  with_reducible rfl
 rotate_left
 ·simp only [Act.put, sx_, s0_, s1_, i64_w, i32_w]
  rfl
 refine pure_ (i := 3) (N := some 6) (v := ?_) (a' := ?_) #[true, false, false, true, false, false, false, false, false, false, false, false, false, false, false, false, false] rfl rfl (any_of HT_.out kr_) (fun _ _ _ h => h) (Or.inl ⟨by rfl, ?_⟩) ?_ ?_
 rotate_left
 ·intro w'
  go_simp
  with_reducible rfl
 rotate_left
 ·simp only [Act.put, sx_, s0_, s1_, i64_w, i32_w]
  rfl
 refine pure_ (i := 6) (N := some 9) (v := ?_) (a' := ?_) #[true, false, false, true, false, false, true, false, false, false, false, false, false, false, false, false, false] rfl rfl (any_of HT_.out kr_) (fun _ _ _ h => h) (Or.inl ⟨by rfl, ?_⟩) ?_ ?_
 rotate_left
 ·intro w'
  go_simp
  with_reducible rfl
 rotate_left
 ·simp only [Act.put, sx_, s0_, s1_, i64_w, i32_w]
  rfl
 refine pure_ (i := 9) (N := some 12) (v := ?_) (a' := ?_) #[true, false, false, true, false, false, true, false, false, true, false, false, false, false, false, false, false] rfl rfl (any_of HT_.out kr_) (fun _ _ _ h => h) (Or.inl ⟨by rfl, ?_⟩) ?_ ?_
 rotate_left
 ·intro w'
  go_simp
  with_reducible rfl
 rotate_left
 ·simp only [Act.put, sx_, s0_, s1_, i64_w, i32_w]
  rfl
 refine pure_ (i := 12) (N := some 15) (v := ?_) (a' := ?_) #[true, false, false, true, false, false, true, false, false, true, false, false, true, false, false, false, false] rfl rfl (any_of HT_.out kr_) (fun _ _ _ h => h) (Or.inl ⟨by rfl, ?_⟩) ?_ ?_
 rotate_left
 ·intro w'
  go_simp
  with_reducible rfl
 rotate_left
 ·simp only [Act.put, sx_, s0_, s1_, i64_w, i32_w]
  rfl
 refine take_ (i := 1) (N := some 4) (v := ?_) (a' := ?_) #[true, true, false, true, false, false, true, false, false, true, false, false, true, false, false, false, false] rfl rfl (take_ofW HT_.out HW_.out kr_) (fun _ _ _ h => h) (Or.inl ⟨by rfl, ?_⟩) hHeld ?_ ?_
 rotate_left
 ·rintro w' ⟨s0, s1, s2, s3, s4⟩
  go_simp
  with_reducible rfl
 rotate_left
 ·simp only [Act.put, sx_, s0_, s1_, i64_w, i32_w]
  rfl
 refine take_ (i := 4) (N := some 7) (v := ?_) (a' := ?_) #[true, true, false, true, true, false, true, false, false, true, false, false, true, false, false, false, false] rfl rfl (take_ofW HT_.out HW_.out kr_) (fun _ _ _ h => h) (Or.inl ⟨by rfl, ?_⟩) hHeld ?_ ?_
 rotate_left
 ·rintro w' ⟨s0, s1, s2, s3, s4⟩
  go_simp
  with_reducible rfl
 rotate_left
 ·simp only [Act.put, sx_, s0_, s1_, i64_w, i32_w]
  rfl
 refine take_ (i := 7) (N := some 10) (v := ?_) (a' := ?_) #[true, true, false, true, true, false, true, true, false, true, false, false, true, false, false, false, false] rfl rfl (take_ofW HT_.out HW_.out kr_) (fun _ _ _ h => h) (Or.inl ⟨by rfl, ?_⟩) hHeld ?_ ?_
 rotate_left
 ·rintro w' ⟨s0, s1, s2, s3, s4⟩
  go_simp
  with_reducible rfl
 rotate_left
 ·simp only [Act.put, sx_, s0_, s1_, i64_w, i32_w]
  rfl
 refine take_ (i := 10) (N := some 13) (v := ?_) (a' := ?_) #[true, true, false, true, true, false, true, true, false, true, true, false, true, false, false, false, false] rfl rfl (take_ofW HT_.out HW_.out kr_) (fun _ _ _ h => h) (Or.inl ⟨by rfl, ?_⟩) hHeld ?_ ?_
 rotate_left
 ·rintro w' ⟨s0, s1, s2, s3, s4⟩
  go_simp
  with_reducible rfl
 rotate_left
 ·simp only [Act.put, sx_, s0_, s1_, i64_w, i32_w]
  rfl
 refine take_ (i := 13) (N := some 16) (v := ?_) (a' := ?_) #[true, true, false, true, true, false, true, true, false, true, true, false, true, true, false, false, false] rfl rfl (take_ofW HT_.out HW_.out kr_) (fun _ _ _ h => h) (Or.inl ⟨by rfl, ?_⟩) hHeld ?_ ?_
 rotate_left
 ·rintro w' ⟨s0, s1, s2, s3, s4⟩
  go_simp
  with_reducible rfl
 rotate_left
 ·simp only [Act.put, sx_, s0_, s1_, i64_w, i32_w]
  rfl
 refine one_ (i := 2) (N := some 5) #[true, true, true, true, true, false, true, true, false, true, true, false, true, true, false, false, false] rfl rfl (one_of HT_.out kr_) (by decide) (fun K hK => ?_)
 refine goes_ Tryd.func14 kr_ rfl #[.string a0_0] (by rfl) rfl rfl rl_ ?_
 with_reducible refine (tolllaw01_Few.calls a0_0 t373 _ A2.out).mono ?_
 rintro e w' ⟨rfl, ⟨nd, rfl⟩⟩
 refine ⟨_, rfl, ?_⟩
 refine hK.out _ _ ⟨(blk_cell BK371.out 0).trans rfl, (blk_cell BK371.out 1).trans rfl, (blk_cell BK371.out 2).trans rfl, (blk_cell BK371.out 3).trans rfl, (blk_cell BK371.out 4).trans rfl⟩ (fun hHeld => ?_)
 clear hK K
 refine norm_ (a' := ?_) ?_ ?_
 rotate_left
 ·show Act.put _ (some 5) _ = _
  simp only [Act.put, sx_, s0_, s1_, i64_w, i32_w]
  rfl
 refine one_ (i := 5) (N := some 8) #[true, true, true, true, true, true, true, true, false, true, true, false, true, true, false, false, false] rfl rfl (one_of HT_.out kr_) (by decide) (fun K hK => ?_)
 refine goes_ Tryd.func14 kr_ rfl #[.string a0_1] (by rfl) rfl rfl rl_ ?_
 with_reducible refine (tolllaw01_Few.calls a0_1 t374 _ A3.out).mono ?_
 rintro e w' ⟨rfl, ⟨nd, rfl⟩⟩
 refine ⟨_, rfl, ?_⟩
 refine hK.out _ _ ⟨(blk_cell BK371.out 0).trans rfl, (blk_cell BK371.out 1).trans rfl, (blk_cell BK371.out 2).trans rfl, (blk_cell BK371.out 3).trans rfl, (blk_cell BK371.out 4).trans rfl⟩ (fun hHeld => ?_)
 clear hK K
 refine norm_ (a' := ?_) ?_ ?_
 rotate_left
 ·show Act.put _ (some 8) _ = _
  simp only [Act.put, sx_, s0_, s1_, i64_w, i32_w]
  rfl
 refine one_ (i := 8) (N := some 11) #[true, true, true, true, true, true, true, true, true, true, true, false, true, true, false, false, false] rfl rfl (one_of HT_.out kr_) (by decide) (fun K hK => ?_)
 refine goes_ Tryd.func14 kr_ rfl #[.string a0_2] (by rfl) rfl rfl rl_ ?_
 with_reducible refine (tolllaw01_Few.calls a0_2 t375 _ A4.out).mono ?_
 rintro e w' ⟨rfl, ⟨nd, rfl⟩⟩
 refine ⟨_, rfl, ?_⟩
 refine hK.out _ _ ⟨(blk_cell BK371.out 0).trans rfl, (blk_cell BK371.out 1).trans rfl, (blk_cell BK371.out 2).trans rfl, (blk_cell BK371.out 3).trans rfl, (blk_cell BK371.out 4).trans rfl⟩ (fun hHeld => ?_)
 clear hK K
 refine norm_ (a' := ?_) ?_ ?_
 rotate_left
 ·show Act.put _ (some 11) _ = _
  simp only [Act.put, sx_, s0_, s1_, i64_w, i32_w]
  rfl
 refine one_ (i := 11) (N := some 14) #[true, true, true, true, true, true, true, true, true, true, true, true, true, true, false, false, false] rfl rfl (one_of HT_.out kr_) (by decide) (fun K hK => ?_)
 refine goes_ Tryd.func31 kr_ rfl #[.slice A0_3 l0_3.length c0_3] (by rfl) rfl rfl rl_ ?_
 with_reducible refine (tolllaw05_Few.calls k _ _ l0_3 t376 _ ?side1 ?side2 A5.out).mono ?_
 (case side1 => exact C_ (Kd.C_below HR0_3.out (bel_ HB.out)))
 (case side2 => exact HC0_3.out)
 rintro e w10 ⟨v377, rfl, ho0, hb⟩
 refine ⟨_, rfl, ?_⟩
 have n0_ := am_ (Kd.R_lower ho0 (below_size (bel_ HB.out)))
 have n1_ := am_ (blk_below (g := gb371) (o := .cells #[.string a0_0, .string a0_1, .string a0_2, .slice A0_3 l0_3.length c0_3, .slice A0_4 l0_4.length c0_4] 26 (0, 0)) (blk_ BK371.out) hb)
 have n2_ := am_ (blk_below (g := gb372) (o := .cells #[.string (⟨#[]⟩ : ByteArray), .string (⟨#[]⟩ : ByteArray), .string (⟨#[]⟩ : ByteArray), .slice none 0 0, .slice none 0 0] 26 (0, 0)) (blk_ BK372.out) hb)
 have n3_ := am_ (below_step (bel_ HB.out) hb)
 clear BK371 BK372 HB
 have HO378 := n0_
 have BK371 := n1_
 have BK372 := n2_
 have HB := n3_
 clear n0_ n1_ n2_ n3_
 (try clear hb)
 (try clear hb2)
 (try clear hk)
 (try clear hi)
 (try clear ho0)
 refine hK.out _ _ ⟨(blk_cell BK371.out 0).trans rfl, (blk_cell BK371.out 1).trans rfl, (blk_cell BK371.out 2).trans rfl, (blk_cell BK371.out 3).trans rfl, (blk_cell BK371.out 4).trans rfl⟩ (fun hHeld => ?_)
 clear hK K
 refine norm_ (a' := ?_) ?_ ?_
 rotate_left
 ·show Act.put _ (some 14) _ = _
  simp only [Act.put, sx_, s0_, s1_, i64_w, i32_w]
  rfl
 refine one_ (i := 14) (N := some 17) #[true, true, true, true, true, true, true, true, true, true, true, true, true, true, true, false, false] rfl rfl (one_of HT_.out kr_) (by decide) (fun K hK => ?_)
 refine goes_ Tryd.func31 kr_ rfl #[.slice A0_4 l0_4.length c0_4] (by rfl) rfl rfl rl_ ?_
 with_reducible refine (tolllaw05_Few.calls k _ _ l0_4 t379 _ ?side1 ?side2 A6.out).mono ?_
 (case side1 => exact C_ (Kd.C_below HR0_4.out HB.out))
 (case side2 => exact HC0_4.out)
 rintro e w11 ⟨v380, rfl, ho0, hb⟩
 refine ⟨_, rfl, ?_⟩
 have n0_ := am_ (Kd.R_elder' (R_ HO378.out) (Kd.R_base ho0) hb)
 have n1_ := am_ (Kd.R_lower (Kd.R_new' ho0 (Kd.R_lt (R_ HO378.out))) (below_size (bel_ HB.out)))
 have n2_ := am_ (blk_below (g := gb371) (o := .cells #[.string a0_0, .string a0_1, .string a0_2, .slice A0_3 l0_3.length c0_3, .slice A0_4 l0_4.length c0_4] 26 (0, 0)) (blk_ BK371.out) hb)
 have n3_ := am_ (blk_below (g := gb372) (o := .cells #[.string (⟨#[]⟩ : ByteArray), .string (⟨#[]⟩ : ByteArray), .string (⟨#[]⟩ : ByteArray), .slice none 0 0, .slice none 0 0] 26 (0, 0)) (blk_ BK372.out) hb)
 have n4_ := am_ (below_step (bel_ HB.out) hb)
 clear HO378 BK371 BK372 HB
 have HO378 := n0_
 have HO381 := n1_
 have BK371 := n2_
 have BK372 := n3_
 have HB := n4_
 clear n0_ n1_ n2_ n3_ n4_
 (try clear hb)
 (try clear hb2)
 (try clear hk)
 (try clear hi)
 (try clear ho0)
 obtain ⟨Ao12, co12, eo12⟩ := Kd.R_slice HO381.out
 (first | subst eo12 | (injection eo12 with f1_ f2_ f3_; have f4_ := f1_.symm; have f5_ := f3_.symm; clear f1_ f2_ f3_; subst f4_; subst f5_))
 obtain ⟨Ao13, co13, eo13⟩ := Kd.R_slice HO378.out
 (first | subst eo13 | (injection eo13 with f1_ f2_ f3_; have f4_ := f1_.symm; have f5_ := f3_.symm; clear f1_ f2_ f3_; subst f4_; subst f5_))
 refine hK.out _ _ ⟨(blk_cell BK371.out 0).trans rfl, (blk_cell BK371.out 1).trans rfl, (blk_cell BK371.out 2).trans rfl, (blk_cell BK371.out 3).trans rfl, (blk_cell BK371.out 4).trans rfl⟩ (fun hHeld => ?_)
 clear hK K
 refine norm_ (a' := ?_) ?_ ?_
 rotate_left
 ·show Act.put _ (some 17) _ = _
  simp only [Act.put, sx_, s0_, s1_, i64_w, i32_w]
  rfl
 refine pure_ (i := 15) (N := some 18) (v := ?_) (a' := ?_) #[true, true, true, true, true, true, true, true, true, true, true, true, true, true, true, true, false] rfl rfl (any_of HT_.out kr_) (fun _ _ _ h => h) (Or.inl ⟨by rfl, ?_⟩) ?_ ?_
 rotate_left
 ·intro w'
  go_simp
  with_reducible rfl
 rotate_left
 ·simp only [Act.put, sx_, s0_, s1_, i64_w, i32_w]
  rfl
 refine one_ (i := 16) (N := none) #[true, true, true, true, true, true, true, true, true, true, true, true, true, true, true, true, true] rfl rfl (one_of HT_.out kr_) (by decide) (fun K hK => ?_)
 have hs14 : w11.cell? ⟨gb372, 0, none⟩ = some (.string (⟨#[]⟩ : ByteArray)) := (blk_cell BK372.out 0).trans rfl
 have hfs14 := blk_frozen BK372.out 0
 have hns14_0 := NB371_372.out
 have hms14_0 := NB372_371.out
 have hs15 : w11.cell? ⟨gb372, 1, none⟩ = some (.string (⟨#[]⟩ : ByteArray)) := (blk_cell BK372.out 1).trans rfl
 have hfs15 := blk_frozen BK372.out 1
 have hns15_0 := NB371_372.out
 have hms15_0 := NB372_371.out
 have hs16 : w11.cell? ⟨gb372, 2, none⟩ = some (.string (⟨#[]⟩ : ByteArray)) := (blk_cell BK372.out 2).trans rfl
 have hfs16 := blk_frozen BK372.out 2
 have hns16_0 := NB371_372.out
 have hms16_0 := NB372_371.out
 have hs17 : w11.cell? ⟨gb372, 3, none⟩ = some (.slice none 0 0) := (blk_cell BK372.out 3).trans rfl
 have hfs17 := blk_frozen BK372.out 3
 have hns17_0 := NB371_372.out
 have hms17_0 := NB372_371.out
 have hs18 : w11.cell? ⟨gb372, 4, none⟩ = some (.slice none 0 0) := (blk_cell BK372.out 4).trans rfl
 have hfs18 := blk_frozen BK372.out 4
 have hns18_0 := NB371_372.out
 have hms18_0 := NB372_371.out
 refine skip_ (w1 := ?_) (by rfl) rfl ?_ ?_
 rotate_left
 ·go_simp
  rfl
 refine hK.out _ _ ⟨((cell_far (p := ⟨gb372, _, none⟩) NB371_372.out _).trans (((cell_far (p := ⟨gb372, _, none⟩) NB371_372.out _).trans (((cell_far (p := ⟨gb372, _, none⟩) NB371_372.out _).trans (((cell_far (p := ⟨gb372, _, none⟩) NB371_372.out _).trans (((cell_far (p := ⟨gb372, _, none⟩) NB371_372.out _).trans (hHeld.1)))))))))), ((cell_far (p := ⟨gb372, _, none⟩) NB371_372.out _).trans (((cell_far (p := ⟨gb372, _, none⟩) NB371_372.out _).trans (((cell_far (p := ⟨gb372, _, none⟩) NB371_372.out _).trans (((cell_far (p := ⟨gb372, _, none⟩) NB371_372.out _).trans (((cell_far (p := ⟨gb372, _, none⟩) NB371_372.out _).trans (hHeld.2.1)))))))))), ((cell_far (p := ⟨gb372, _, none⟩) NB371_372.out _).trans (((cell_far (p := ⟨gb372, _, none⟩) NB371_372.out _).trans (((cell_far (p := ⟨gb372, _, none⟩) NB371_372.out _).trans (((cell_far (p := ⟨gb372, _, none⟩) NB371_372.out _).trans (((cell_far (p := ⟨gb372, _, none⟩) NB371_372.out _).trans (hHeld.2.2.1)))))))))), ((cell_far (p := ⟨gb372, _, none⟩) NB371_372.out _).trans (((cell_far (p := ⟨gb372, _, none⟩) NB371_372.out _).trans (((cell_far (p := ⟨gb372, _, none⟩) NB371_372.out _).trans (((cell_far (p := ⟨gb372, _, none⟩) NB371_372.out _).trans (((cell_far (p := ⟨gb372, _, none⟩) NB371_372.out _).trans (hHeld.2.2.2.1)))))))))), ((cell_far (p := ⟨gb372, _, none⟩) NB371_372.out _).trans (((cell_far (p := ⟨gb372, _, none⟩) NB371_372.out _).trans (((cell_far (p := ⟨gb372, _, none⟩) NB371_372.out _).trans (((cell_far (p := ⟨gb372, _, none⟩) NB371_372.out _).trans (((cell_far (p := ⟨gb372, _, none⟩) NB371_372.out _).trans (hHeld.2.2.2.2))))))))))⟩ (fun hHeld => ?_)
 clear hK K
 refine done_ (done_of HT_.out kr_) ?_
 try go_wp2
 refine bodyPost_ret (results_cell_row rfl _ _ gb372 26 #[.string t373, .string t374, .string t375, .slice Ao13 t376.length co13, .slice Ao12 t379.length co12] (0, 0) _ rfl (by (with_reducible repeat (first | refine blk_drewN ?_ _ | refine blk_drew ?_ | refine blk_alloc ?_ _)); refine blk_put (cs := #[.string t373, .string t374, .string t375, .slice Ao13 t376.length co13, .slice none 0 0]) ?_ 4 _ rfl; (with_reducible repeat (first | refine blk_drewN ?_ _ | refine blk_drew ?_ | refine blk_alloc ?_ _)); refine blk_put (cs := #[.string t373, .string t374, .string t375, .slice none 0 0, .slice none 0 0]) ?_ 3 _ rfl; (with_reducible repeat (first | refine blk_drewN ?_ _ | refine blk_drew ?_ | refine blk_alloc ?_ _)); refine blk_put (cs := #[.string t373, .string t374, .string (⟨#[]⟩ : ByteArray), .slice none 0 0, .slice none 0 0]) ?_ 2 _ rfl; (with_reducible repeat (first | refine blk_drewN ?_ _ | refine blk_drew ?_ | refine blk_alloc ?_ _)); refine blk_put (cs := #[.string t373, .string (⟨#[]⟩ : ByteArray), .string (⟨#[]⟩ : ByteArray), .slice none 0 0, .slice none 0 0]) ?_ 1 _ rfl; (with_reducible repeat (first | refine blk_drewN ?_ _ | refine blk_drew ?_ | refine blk_alloc ?_ _)); refine blk_put (cs := #[.string (⟨#[]⟩ : ByteArray), .string (⟨#[]⟩ : ByteArray), .string (⟨#[]⟩ : ByteArray), .slice none 0 0, .slice none 0 0]) ?_ 0 _ rfl; (with_reducible repeat (first | refine blk_drewN ?_ _ | refine blk_drew ?_ | refine blk_alloc ?_ _)); exact BK372.out) Tryd.underlying26 rfl kr_) rfl ?_
 exact ⟨_, _, by first | rfl | (simp [errW_none, errW_some] <;> rfl) | (simp [*, errW_none, errW_some] <;> rfl), by (with_reducible repeat (first | apply Kd.R_alloc | apply Kd.R_drewN | apply Kd.R_drew)); exact Kd.R_mono (Kd.R_far (p := ⟨gb372, 4, none⟩) (Kd.R_far (p := ⟨gb372, 3, none⟩) (Kd.R_far (p := ⟨gb372, 2, none⟩) (Kd.R_far (p := ⟨gb372, 1, none⟩) (Kd.R_far (p := ⟨gb372, 0, none⟩) (Kd.R_types HO378.out BK372.out (by decide)) (fun _ hk => hk.2) (.string t373)) (fun _ hk => hk.2) (.string t374)) (fun _ hk => hk.2) (.string t375)) (fun _ hk => hk.2) (.slice Ao13 t376.length co13)) (fun _ hk => hk.2) (.slice Ao12 t379.length co12)) (fun _ hk => hk.1.2), by (with_reducible repeat (first | apply Kd.R_alloc | apply Kd.R_drewN | apply Kd.R_drew)); exact Kd.R_mono (Kd.R_far (p := ⟨gb372, 4, none⟩) (Kd.R_far (p := ⟨gb372, 3, none⟩) (Kd.R_far (p := ⟨gb372, 2, none⟩) (Kd.R_far (p := ⟨gb372, 1, none⟩) (Kd.R_far (p := ⟨gb372, 0, none⟩) (Kd.R_types HO381.out BK372.out (by decide)) (fun _ hk => hk.2) (.string t373)) (fun _ hk => hk.2) (.string t374)) (fun _ hk => hk.2) (.string t375)) (fun _ hk => hk.2) (.slice Ao13 t376.length co13)) (fun _ hk => hk.2) (.slice Ao12 t379.length co12)) (fun _ hk => hk.1.2), bel_ HB.out⟩

end Go.Proofs.YtpmllmfamjpinaaDoor.P
