-- written by wip/tool/hprint.py of this repo: the kit's print, with contracts by hand joined; Lean checks it.
import Derived.Test.YtpmllmfamjpinaaGreatDoorPx0
import Derived.Test.YtpmllmfamjpinaaGreatDoorPx2
import Derived.Test.YtpmllmfamjpinaaGreatDoorPx3
import Derived.Test.YtpmllmfamjpinaaGreatDoorPx4
import Derived.Test.YtpmllmfamjpinaaGreatDoorPx9
namespace Go.Proofs.YtpmllmfamjpinaaGreatDoor.P
open Go.RowKit Go.Proofs.YtpmllmfamjpinaaGreatDoorW.PrintWords Go.Proofs.YtpmllmfamjpinaaGreatDoorW.PrintLast Go.Proofs.YtpmllmfamjpinaaGreatDoorW.PrintMore
attribute [local go_sem] max2_int min2_int max_two min_two max_three min_three max_four min_four   -- for this text's walks alone
set_option linter.unusedVariables false
set_option linter.unusedSimpArgs false

/-! ### query_read: function 94 -/
mutual
def query_read.l0 : Nat → ByteArray → List Int → Int → Option (ByteArray × Bool)
 | 0, _, _, _ => none
 | k + 1, x0, x4, x5 => if x5 < (x0.size : Int) then (if 0 ≤ x5 then (if (bt x0 x5) = 43 then (if x4.length < 140737488355328 then (query_read.l0 k x0 (x4 ++ [32]) (wrap64 (x5 + 1))) else (none)) else (if (bt x0 x5) = 37 then (if (wrap64 (x5 + 2)) ≥ (x0.size : Int) then (query_read.j1 k x0 x4 x5 true) else (if 0 ≤ (wrap64 (x5 + 1)) then (if (wrap64 (x5 + 1)) < (x0.size : Int) then ((query_digit.f (bt x0 (wrap64 (x5 + 1)))).bind fun t251 => (if t251 < 0 then (query_read.j1 k x0 x4 x5 true) else (if 0 ≤ (wrap64 (x5 + 2)) then (if (wrap64 (x5 + 2)) < (x0.size : Int) then ((query_digit.f (bt x0 (wrap64 (x5 + 2)))).bind fun t252 => (query_read.j1 k x0 x4 x5 (decide (t252 < 0)))) else (none)) else (none)))) else (none)) else (none))) else (if x4.length < 140737488355328 then (query_read.l0 k x0 (x4 ++ [bt x0 x5]) (wrap64 (x5 + 1))) else (none)))) else (none)) else (some (strOfNums x4, true))
def query_read.j1 : Nat → ByteArray → List Int → Int → Bool → Option (ByteArray × Bool)
 | 0, _, _, _, _ => none
 | k + 1, x0, x4, x5, x51 => if x51 = true then (some ((⟨#[]⟩ : ByteArray), false)) else (if 0 ≤ (wrap64 (x5 + 1)) then (if (wrap64 (x5 + 1)) < (x0.size : Int) then ((query_digit.f (bt x0 (wrap64 (x5 + 1)))).bind fun t253 => (if 0 ≤ (wrap64 (x5 + 2)) then (if (wrap64 (x5 + 2)) < (x0.size : Int) then ((query_digit.f (bt x0 (wrap64 (x5 + 2)))).bind fun t254 => (if x4.length < 140737488355328 then (query_read.l0 k x0 (x4 ++ [(Go.bits .or .i64 (wrap64 (t253 * 16)) t254) % 256]) (wrap64 ((wrap64 (x5 + 2)) + 1))) else (none))) else (none)) else (none))) else (none)) else (none))
end
def query_read.f (k : Nat) (a0 : ByteArray) : Option (ByteArray × Bool) := if 0 ≤ (a0.size : Int) then (if ((a0.size : Int) : Int).toNat ≤ 281474976710656 then (query_read.l0 k a0 (([] : List Int)) 0) else (none)) else (none)
theorem query_read.mono_l : ∀ k, (∀ y0 y1 y2, LeO (query_read.l0 k y0 y1 y2) (query_read.l0 (k + 1) y0 y1 y2)) ∧ (∀ y0 y1 y2 y3, LeO (query_read.j1 k y0 y1 y2 y3) (query_read.j1 (k + 1) y0 y1 y2 y3))
 | 0 => ⟨fun _ _ _ r h => by simp [query_read.l0] at h, fun _ _ _ _ r h => by simp [query_read.j1] at h⟩
 | k + 1 => by
  obtain ⟨ih0, ih1⟩ := query_read.mono_l k
  refine ⟨?_, ?_⟩
  ·intro y0 y1 y2
   unfold query_read.l0
   repeat' first
   | (with_reducible exact ih0 _ _ _)
   | (with_reducible exact ih1 _ _ _ _)
   | (with_reducible exact LeO.refl _)
   | (with_reducible exact LeO.none _)
   | (with_reducible refine LeO.ite ?_ ?_)
   | (with_reducible refine LeO.bind ?_ (fun _ => ?_))
   | exact ih0 _ _ _
   | exact ih1 _ _ _ _
   | exact LeO.none _
   | refine LeO.ite ?_ ?_
   | refine LeO.bind ?_ (fun _ => ?_)
  ·intro y0 y1 y2 y3
   unfold query_read.j1
   repeat' first
   | (with_reducible exact ih0 _ _ _)
   | (with_reducible exact ih1 _ _ _ _)
   | (with_reducible exact LeO.refl _)
   | (with_reducible exact LeO.none _)
   | (with_reducible refine LeO.ite ?_ ?_)
   | (with_reducible refine LeO.bind ?_ (fun _ => ?_))
   | exact ih0 _ _ _
   | exact ih1 _ _ _ _
   | exact LeO.none _
   | refine LeO.ite ?_ ?_
   | refine LeO.bind ?_ (fun _ => ?_)
theorem query_read.mono : ∀ a0 k, LeO (query_read.f k a0) (query_read.f (k + 1) a0) := by
 intro a0 k
 obtain ⟨ih0, ih1⟩ := query_read.mono_l k
 unfold query_read.f
 repeat' first
   | (with_reducible exact ih0 _ _ _)
   | (with_reducible exact ih1 _ _ _ _)
   | (with_reducible exact LeO.refl _)
   | (with_reducible exact LeO.none _)
   | (with_reducible refine LeO.ite ?_ ?_)
   | (with_reducible refine LeO.bind ?_ (fun _ => ?_))
   | exact ih0 _ _ _
   | exact ih1 _ _ _ _
   | exact LeO.none _
   | refine LeO.ite ?_ ?_
   | refine LeO.bind ?_ (fun _ => ?_)
def query_read.T12 : Bool × List (List Nat × List Nat) := (true, [([], []), ([], []), ([], []), ([2], [2]), ([1, 3], [1, 3]), ([4], [4]), ([5], [5]), ([], []), ([], []), ([8], [8]), ([7, 9], [7, 9]), ([10, 5], [10]), ([6, 11], [6, 11]), ([12], [12]), ([13], [13]), ([0, 14, 11], [0, 14]), ([15, 15, 0, 1, 2, 3, 4, 5, 6, 7, 8, 9, 10, 11, 12, 13, 14, 15], [0, 15])])
def query_read.B12 : List Nat := [0, 0, 0, 4, 14, 30, 62, 0, 0, 256, 896, 1982, 4094, 8190, 16382, 32767, 65535]
theorem query_read.tab12 : rtab .any (opsOf Tryz.f94 12) = query_read.T12 := by kernel_rfl
theorem query_read.bits12 : waitsOk query_read.T12.2 query_read.B12 = true := by kernel_rfl
set_option maxHeartbeats 8000000 in
set_option maxRecDepth 100000 in
theorem query_read.calls (k : Nat) (a0 : ByteArray) (r1 : ByteArray) (r2 : Bool) (w : World) (h : query_read.f k a0 = some (r1, r2)) :
  Calls Tryz.prog 94 #[.string a0] w fun e w' => e = .returned (.tuple #[.string r1, .bool r2]) ∧ Below w.heap.size w w' := by
 have HB := am_ (Below.refl w.heap.size w)
 have H : (if 0 ≤ (a0.size : Int) then (if ((a0.size : Int) : Int).toNat ≤ 281474976710656 then (query_read.l0 k a0 (([] : List Int)) 0) else (none)) else (none)) = some (r1, r2) := h
 clear h
 by_cases c2 : 0 ≤ (a0.size : Int)
 ·rw [if_pos c2] at H
  have c2b0 := eq_true c2
  have c2b1 : decide (0 ≤ (a0.size : Int)) = true := decide_eq_true c2
  clear c2
  by_cases c3 : ((a0.size : Int) : Int).toNat ≤ 281474976710656
  ·rw [if_pos c3] at H
   have c3b0 := eq_true c3
   have c3b1 : decide (((a0.size : Int) : Int).toNat ≤ 281474976710656) = true := decide_eq_true c3
   clear c3
   obtain ⟨y245, hy245⟩ : ∃ y_ : List Int, y_ = (([] : List Int)) := ⟨_, rfl⟩
   replace H : (query_read.l0 k a0 y245 0) = some (r1, r2) := by first | (rw [hy245]; with_reducible exact H) | (have H2_ := (Option.bind_some _ _).symm.trans H; rw [hy245]; with_reducible exact H2_) | (have H2_ := (Option.bind_some _ _).symm.trans H; with_reducible exact H2_) | with_reducible exact H | (rw [hy245]; exact H) | exact H
   have Ny245 := Aside0.mk hy245
   clear hy245
   have H' := Aside0.mk H
   clear H
   go_enter Tryz.func94, Tryz.ntmps94
   go_wp2_with (first | ((with_reducible refine gate_dst (N := 8) rfl ?_); refine Kd.R_make0 (Kd.int .u8) _ 5 rfl (N := 8) rfl 43 _ _ rfl (a0.size : Int) rfl rfl Tryz.underlying43 (.int .u8 0) 1 info5 rfl (by decide) (by omega) 0 (ok := fun _ => True) (okp := fun _ => True) rfl (fun _ hk => hk) trivial (of_decide_eq_true as_) (Nat.le_trans (Nat.mul_le_mul_right _ (of_decide_eq_true as_ : (a0.size : Int).toNat ≤ 281474976710656)) (by omega)) (Below.refl _ _) (Nat.le_refl _) ?_; intro v246 w4 ho5 hb hg_ hnew_; clear hg_ hnew_; (first | rw [← Ny245.out] at ho5 | (simp only [Int.reduceToNat] at ho5; rw [← Ny245.out] at ho5)); have n0_ := am_ (Kd.R_lower ho5 (below_size (bel_ HB.out))); have n1_ := am_ (below_step (bel_ HB.out) hb); clear HB; have HO247 := n0_; have HB := n1_; clear n0_ n1_ hb ho5))
   go_loopg [4, 5] k (fun kq v4 v5 w' => ∃ (x4_1 : List Int) (x5_1 : Int), v5 = .int .i64 x5_1 ∧ Aside0 (query_read.l0 kq a0 x4_1 x5_1 = some (r1, r2)) ∧ Aside0 (kq ≤ k) ∧ Aside0 (Kd.R (Kd.int .u8) 5 w' w.heap.size (fun _ => True) v4 x4_1) ∧ Aside0 (Below w.heap.size w w'))
   case atStart => exact ⟨(y245), (0), sd_, H', ⟨Nat.le_refl _⟩, ⟨by (with_reducible repeat (first | apply Kd.R_alloc | apply Kd.R_drewN | apply Kd.R_drew)); exact HO247.out⟩, ⟨bel_ HB.out⟩⟩
   case round =>
    clear H'
    try clear c2
    try clear c2b0
    try clear c2b1
    try clear p2
    try clear c3
    try clear c3b0
    try clear c3b1
    obtain ⟨x4_1, x5_1, rfl, HA, HK1, HO_4, HB⟩ := hrel
    cases gk with
    | zero => exact absurd HA.out (by simp [query_read.l0])
    | succ k1 =>
     have H := HA.out
     clear HA
     simp only [query_read.l0] at H
     by_cases c6 : x5_1 < (a0.size : Int)
     ·rw [if_pos c6] at H
      have c6b0 : decide (x5_1 < (a0.size : Int)) = true := decide_eq_true c6
      clear c6
      by_cases c7 : 0 ≤ x5_1
      ·rw [if_pos c7] at H
       have c7b0 : decide (0 ≤ x5_1) = true := decide_eq_true c7
       clear c7
       by_cases c9 : (bt a0 x5_1) = 43
       ·rw [if_pos c9] at H
        have c9b0 : ((bt a0 x5_1) == 43) = true := beq_iff_eq.mpr c9
        have c9b1 : ((bt a0 x5_1) != 43) = false := bne_eq_false_iff_eq.mpr c9
        clear c9
        by_cases c10 : x4_1.length < 140737488355328
        ·rw [if_pos c10] at H
         have LMc10 := Aside0.mk c10
         clear c10
         obtain ⟨y248, hy248⟩ : ∃ y_ : List Int, y_ = (x4_1 ++ [32]) := ⟨_, rfl⟩
         replace H : (query_read.l0 k1 a0 y248 (wrap64 (x5_1 + 1))) = some (r1, r2) := by first | (rw [hy248]; with_reducible exact H) | (have H2_ := (Option.bind_some _ _).symm.trans H; rw [hy248]; with_reducible exact H2_) | (have H2_ := (Option.bind_some _ _).symm.trans H; with_reducible exact H2_) | with_reducible exact H | (rw [hy248]; exact H) | exact H
         have Ny248 := Aside0.mk hy248
         clear hy248
         have H' := Aside0.mk H
         clear H
         have p8 : 0 ≤ (x5_1 : Int) := of_decide_eq_true as_
         have q8 : x5_1 < (a0.size : Int) := of_decide_eq_true as_
         have hx8 := bt_at a0 x5_1
         replace p8 := eq_true p8
         replace q8 := eq_true q8
         go_wp2_with (first | ((with_reducible refine gate_builtin (b := .append) (xs := #[.tmp 26, .tmp 27]) rfl ?_); at_builtin; refine Kd.R_append (Kd.int .u8) (w0 := w) w.heap.size rfl (.tmp 26) (.tmp 27) 43 5 (.int .u8 0) 1 rfl Tryz.underlying43 info5 rfl (by decide) (by omega) u4 x4_1 32 [.int .u8 32] (fun _ => True) (fun _ => False) rfl rfl ?aP (fun _ hk => hk.elim) ?aF ?aO ?aB ?aS ?aL ?_; (case aP => exact rfl); (case aB => exact (bel_ HB.out)); (case aF => exact (fun _ _ => trivial)); (case aO => exact (R_ HO_4.out)); (case aS => exact (below_size (bel_ HB.out))); (case aL => have := LMc10.out; omega); intro v249 w11 ho hb hg hat; rw [← Ny248.out] at ho; have n0_ := am_ (hb); have n1_ := am_ (ho); clear HB HO_4; have HB := n0_; have HO250 := n1_; clear n0_ n1_ ho hb hg hat))
         go_roundg k1
         case measure => have := HK1.out; omega
         case rel => exact ⟨(y248), (wrap64 (x5_1 + 1)), sd_, H', ⟨by have := HK1.out; omega⟩, ⟨by (with_reducible repeat (first | apply Kd.R_alloc | apply Kd.R_drewN | apply Kd.R_drew)); exact HO250.out⟩, ⟨bel_ HB.out⟩⟩
        ·rw [if_neg c10] at H
         exact absurd H (by simp)
       ·rw [if_neg c9] at H
        have c9b0 : ((bt a0 x5_1) == 43) = false := beq_eq_false_iff_ne.mpr c9
        have c9b1 : ((bt a0 x5_1) != 43) = true := bne_iff_ne.mpr c9
        by_cases c12 : (bt a0 x5_1) = 37
        ·rw [if_pos c12] at H
         have c12b0 : ((bt a0 x5_1) == 37) = true := beq_iff_eq.mpr c12
         have c12b1 : ((bt a0 x5_1) != 37) = false := bne_eq_false_iff_eq.mpr c12
         clear c12
         have HC13 := Aside0.mk H
         clear H
         have p8 : 0 ≤ (x5_1 : Int) := of_decide_eq_true as_
         have q8 : x5_1 < (a0.size : Int) := of_decide_eq_true as_
         have hx8 := bt_at a0 x5_1
         replace p8 := eq_true p8
         replace q8 := eq_true q8
         go_upto_region 10 with (fail)
         go_cut [51] (fun v51 wc => ∃ (kq : Nat) (x51_12 : Bool), v51 = .bool x51_12 ∧ Aside0 (query_read.j1 kq a0 x4_1 x5_1 x51_12 = some (r1, r2)) ∧ Aside0 (kq ≤ k1) ∧ Aside0 (Kd.R (Kd.int .u8) 5 wc w.heap.size (fun _ => True) u4 x4_1) ∧ Aside0 (Below w.heap.size w wc))
         case first =>
          have H := HC13.out
          clear HC13
          by_cases c14 : (wrap64 (x5_1 + 2)) ≥ (a0.size : Int)
          ·rw [if_pos c14] at H
           have c14b0 : decide ((a0.size : Int) ≤ (wrap64 (x5_1 + 2))) = true := decide_eq_true c14
           clear c14
           (first | rw [c14b0] | rw [c14b1] | rw [c14b2] | (simp only [i64_w, i32_w]; rw [c14b0]) | skip)
           have H' := Aside0.mk H
           clear H
           go_wp2
           go_meet
           case rel => exact ⟨_, (true), sd_, H', ⟨by have := HK1.out; first | omega | exact Nat.le_refl _⟩, ⟨by (with_reducible repeat (first | apply Kd.R_alloc | apply Kd.R_drewN | apply Kd.R_drew)); exact HO_4.out⟩, ⟨bel_ HB.out⟩⟩
          ·rw [if_neg c14] at H
           have c14b0 : decide ((a0.size : Int) ≤ (wrap64 (x5_1 + 2))) = false := decide_eq_false c14
           clear c14
           (first | rw [c14b0] | rw [c14b1] | rw [c14b2] | (simp only [i64_w, i32_w]; rw [c14b0]) | skip)
           obtain ⟨ji15, hji15⟩ : ∃ j_ : Int, (wrap64 (x5_1 + 1)) = j_ := ⟨_, rfl⟩
           replace H : (if 0 ≤ (ji15) then (if (ji15) < (a0.size : Int) then ((query_digit.f (bt a0 (ji15))).bind fun t251 => (if t251 < 0 then (query_read.j1 k1 a0 x4_1 x5_1 true) else (if 0 ≤ (wrap64 (x5_1 + 2)) then (if (wrap64 (x5_1 + 2)) < (a0.size : Int) then ((query_digit.f (bt a0 (wrap64 (x5_1 + 2)))).bind fun t252 => (query_read.j1 k1 a0 x4_1 x5_1 (decide (t252 < 0)))) else (none)) else (none)))) else (none)) else (none)) = some (r1, r2) := by first | (rw [hji15] at H; exact H) | (simp only [hji15] at H ⊢; exact H)
           have hji15w : (IntKind.i64.wrap (x5_1 + 1)) = ji15 := (i64_w _).trans hji15
           by_cases c16 : 0 ≤ (ji15)
           ·rw [if_pos c16] at H
            have c16b0 : decide (0 ≤ (ji15)) = true := decide_eq_true c16
            clear c16
            by_cases c17 : (ji15) < (a0.size : Int)
            ·rw [if_pos c17] at H
             have c17b0 : decide ((ji15) < (a0.size : Int)) = true := decide_eq_true c17
             clear c17
             replace H := Option.bind_eq_some_iff.mp H
             obtain ⟨t251, A190, H⟩ := H
             replace H : (if t251 < 0 then (query_read.j1 k1 a0 x4_1 x5_1 true) else (if 0 ≤ (wrap64 (x5_1 + 2)) then (if (wrap64 (x5_1 + 2)) < (a0.size : Int) then ((query_digit.f (bt a0 (wrap64 (x5_1 + 2)))).bind fun t252 => (query_read.j1 k1 a0 x4_1 x5_1 (decide (t252 < 0)))) else (none)) else (none))) = some (r1, r2) := H
             have A19 := Aside0.mk A190
             clear A190
             by_cases c20 : t251 < 0
             ·rw [if_pos c20] at H
              have c20b0 : decide (t251 < 0) = true := decide_eq_true c20
              clear c20
              have H' := Aside0.mk H
              clear H
              have p18 : 0 ≤ ((ji15) : Int) := of_decide_eq_true as_
              have q18 : (ji15) < (a0.size : Int) := of_decide_eq_true as_
              have hx18 := bt_at a0 (ji15)
              replace p18 := eq_true p18
              replace q18 := eq_true q18
              go_wp2_with (first | (go_at_call 102; (with_reducible refine (query_digit.calls (bt a0 (ji15)) t251 _ A19.out).mono ?_); rintro e w' ⟨rfl, ⟨nd, rfl⟩⟩))
              go_meet
              case rel => exact ⟨_, (true), sd_, H', ⟨by have := HK1.out; first | omega | exact Nat.le_refl _⟩, ⟨by (with_reducible repeat (first | apply Kd.R_alloc | apply Kd.R_drewN | apply Kd.R_drew)); exact HO_4.out⟩, ⟨bel_ HB.out⟩⟩
             ·rw [if_neg c20] at H
              have c20b0 : decide (t251 < 0) = false := decide_eq_false c20
              clear c20
              obtain ⟨ji21, hji21⟩ : ∃ j_ : Int, (wrap64 (x5_1 + 2)) = j_ := ⟨_, rfl⟩
              replace H : (if 0 ≤ (ji21) then (if (ji21) < (a0.size : Int) then ((query_digit.f (bt a0 (ji21))).bind fun t252 => (query_read.j1 k1 a0 x4_1 x5_1 (decide (t252 < 0)))) else (none)) else (none)) = some (r1, r2) := by first | (rw [hji21] at H; exact H) | (simp only [hji21] at H ⊢; exact H)
              (try rw [hji21] at c14b0)
              (try rw [hji21] at A19)
              have hji21w : (IntKind.i64.wrap (x5_1 + 2)) = ji21 := (i64_w _).trans hji21
              by_cases c22 : 0 ≤ (ji21)
              ·rw [if_pos c22] at H
               have c22b0 : decide (0 ≤ (ji21)) = true := decide_eq_true c22
               clear c22
               by_cases c23 : (ji21) < (a0.size : Int)
               ·rw [if_pos c23] at H
                have c23b0 : decide ((ji21) < (a0.size : Int)) = true := decide_eq_true c23
                clear c23
                replace H := Option.bind_eq_some_iff.mp H
                obtain ⟨t252, A250, H⟩ := H
                replace H : (query_read.j1 k1 a0 x4_1 x5_1 (decide (t252 < 0))) = some (r1, r2) := H
                have A25 := Aside0.mk A250
                clear A250
                have H' := Aside0.mk H
                clear H
                have p18 : 0 ≤ ((ji15) : Int) := of_decide_eq_true as_
                have q18 : (ji15) < (a0.size : Int) := of_decide_eq_true as_
                have hx18 := bt_at a0 (ji15)
                replace p18 := eq_true p18
                replace q18 := eq_true q18
                go_wp2_with (first | (go_at_call 102; (with_reducible refine (query_digit.calls (bt a0 (ji15)) t251 _ A19.out).mono ?_); rintro e w' ⟨rfl, ⟨nd, rfl⟩⟩; have p24 : 0 ≤ ((ji21) : Int) := of_decide_eq_true as_; have q24 : (ji21) < (a0.size : Int) := of_decide_eq_true as_; have hx24 := bt_at a0 (ji21); replace p24 := eq_true p24; replace q24 := eq_true q24) | (go_at_call 102; (with_reducible refine (query_digit.calls (bt a0 (ji21)) t252 _ A25.out).mono ?_); rintro e w' ⟨rfl, ⟨nd, rfl⟩⟩))
                go_meet
                case rel => exact ⟨_, (decide (t252 < 0)), sd_, H', ⟨by have := HK1.out; first | omega | exact Nat.le_refl _⟩, ⟨by (with_reducible repeat (first | apply Kd.R_alloc | apply Kd.R_drewN | apply Kd.R_drew)); exact HO_4.out⟩, ⟨bel_ HB.out⟩⟩
               ·rw [if_neg c23] at H
                exact absurd H (by simp)
              ·rw [if_neg c22] at H
               exact absurd H (by simp)
            ·rw [if_neg c17] at H
             exact absurd H (by simp)
           ·rw [if_neg c16] at H
            exact absurd H (by simp)
         case rest =>
          clear HC13
          try clear c1
          try clear p1
          try clear q1
          try clear hx1
          try clear c2
          try clear c2b0
          try clear c2b1
          try clear p2
          try clear q2
          try clear hx2
          try clear c3
          try clear c3b0
          try clear c3b1
          try clear c6
          try clear c6b0
          try clear p6
          try clear c7
          try clear c7b0
          try clear p8
          try clear q8
          try clear hx8
          try clear c9
          try clear c9b0
          try clear c9b1
          try clear c10
          try clear c12
          try clear c12b0
          try clear c12b1
          try clear c14
          try clear c14b0
          try clear c14b1
          try clear c14b2
          try clear c16
          try clear c16b0
          try clear c17
          try clear c17b0
          try clear p18
          try clear q18
          try clear hx18
          try clear c20
          try clear c20b0
          try clear c22
          try clear c22b0
          try clear c23
          try clear c23b0
          try clear p24
          try clear q24
          try clear hx24
          try clear p18
          try clear p2
          try clear p24
          try clear p8
          try clear q18
          try clear q24
          try clear q8
          obtain ⟨kq, x51_12, rfl, HA, HJ12, HO_4, HB⟩ := hcut
          cases kq with
          | zero => exact absurd HA.out (by simp [query_read.j1])
          | succ kj12 =>
           have H := HA.out
           clear HA
           simp only [query_read.j1] at H
           by_cases c26 : x51_12 = true
           ·subst c26
            have H1 : (some ((⟨#[]⟩ : ByteArray), false)) = some (r1, r2) := by rw [if_pos rfl] at H; exact H
            clear H
            have H := H1
            clear H1
            simp only [Option.some.injEq, Prod.mk.injEq] at H
            obtain ⟨rfl, rfl⟩ := H
            go_wp2
            go_ret2
            exact ⟨fi_, bel_ HB.out⟩
           ·replace c26 := Bool.eq_false_iff.mpr c26
            subst c26
            have H1 : (if 0 ≤ (wrap64 (x5_1 + 1)) then (if (wrap64 (x5_1 + 1)) < (a0.size : Int) then ((query_digit.f (bt a0 (wrap64 (x5_1 + 1)))).bind fun t253 => (if 0 ≤ (wrap64 (x5_1 + 2)) then (if (wrap64 (x5_1 + 2)) < (a0.size : Int) then ((query_digit.f (bt a0 (wrap64 (x5_1 + 2)))).bind fun t254 => (if x4_1.length < 140737488355328 then (query_read.l0 kj12 a0 (x4_1 ++ [(Go.bits .or .i64 (wrap64 (t253 * 16)) t254) % 256]) (wrap64 ((wrap64 (x5_1 + 2)) + 1))) else (none))) else (none)) else (none))) else (none)) else (none)) = some (r1, r2) := by rw [if_neg (show ¬ (false = true) by decide)] at H; exact H
            clear H
            have H := H1
            clear H1
            obtain ⟨ji27, hji27⟩ : ∃ j_ : Int, (wrap64 (x5_1 + 1)) = j_ := ⟨_, rfl⟩
            replace H : (if 0 ≤ (ji27) then (if (ji27) < (a0.size : Int) then ((query_digit.f (bt a0 (ji27))).bind fun t253 => (if 0 ≤ (wrap64 (x5_1 + 2)) then (if (wrap64 (x5_1 + 2)) < (a0.size : Int) then ((query_digit.f (bt a0 (wrap64 (x5_1 + 2)))).bind fun t254 => (if x4_1.length < 140737488355328 then (query_read.l0 kj12 a0 (x4_1 ++ [(Go.bits .or .i64 (wrap64 (t253 * 16)) t254) % 256]) (wrap64 ((wrap64 (x5_1 + 2)) + 1))) else (none))) else (none)) else (none))) else (none)) else (none)) = some (r1, r2) := by first | (rw [hji27] at H; exact H) | (simp only [hji27] at H ⊢; exact H)
            have hji27w : (IntKind.i64.wrap (x5_1 + 1)) = ji27 := (i64_w _).trans hji27
            by_cases c28 : 0 ≤ (ji27)
            ·rw [if_pos c28] at H
             have c28b0 : decide (0 ≤ (ji27)) = true := decide_eq_true c28
             clear c28
             by_cases c29 : (ji27) < (a0.size : Int)
             ·rw [if_pos c29] at H
              have c29b0 : decide ((ji27) < (a0.size : Int)) = true := decide_eq_true c29
              clear c29
              replace H := Option.bind_eq_some_iff.mp H
              obtain ⟨t253, A310, H⟩ := H
              replace H : (if 0 ≤ (wrap64 (x5_1 + 2)) then (if (wrap64 (x5_1 + 2)) < (a0.size : Int) then ((query_digit.f (bt a0 (wrap64 (x5_1 + 2)))).bind fun t254 => (if x4_1.length < 140737488355328 then (query_read.l0 kj12 a0 (x4_1 ++ [(Go.bits .or .i64 (wrap64 (t253 * 16)) t254) % 256]) (wrap64 ((wrap64 (x5_1 + 2)) + 1))) else (none))) else (none)) else (none)) = some (r1, r2) := H
              have A31 := Aside0.mk A310
              clear A310
              obtain ⟨ji32, hji32⟩ : ∃ j_ : Int, (wrap64 (x5_1 + 2)) = j_ := ⟨_, rfl⟩
              replace H : (if 0 ≤ (ji32) then (if (ji32) < (a0.size : Int) then ((query_digit.f (bt a0 (ji32))).bind fun t254 => (if x4_1.length < 140737488355328 then (query_read.l0 kj12 a0 (x4_1 ++ [(Go.bits .or .i64 (wrap64 (t253 * 16)) t254) % 256]) (wrap64 ((ji32) + 1))) else (none))) else (none)) else (none)) = some (r1, r2) := by first | (rw [hji32] at H; exact H) | (simp only [hji32] at H ⊢; exact H)
              (try rw [hji32] at A31)
              have hji32w : (IntKind.i64.wrap (x5_1 + 2)) = ji32 := (i64_w _).trans hji32
              by_cases c33 : 0 ≤ (ji32)
              ·rw [if_pos c33] at H
               have c33b0 : decide (0 ≤ (ji32)) = true := decide_eq_true c33
               clear c33
               by_cases c34 : (ji32) < (a0.size : Int)
               ·rw [if_pos c34] at H
                have c34b0 : decide ((ji32) < (a0.size : Int)) = true := decide_eq_true c34
                clear c34
                replace H := Option.bind_eq_some_iff.mp H
                obtain ⟨t254, A360, H⟩ := H
                replace H : (if x4_1.length < 140737488355328 then (query_read.l0 kj12 a0 (x4_1 ++ [(Go.bits .or .i64 (wrap64 (t253 * 16)) t254) % 256]) (wrap64 ((ji32) + 1))) else (none)) = some (r1, r2) := H
                have A36 := Aside0.mk A360
                clear A360
                by_cases c37 : x4_1.length < 140737488355328
                ·rw [if_pos c37] at H
                 have LMc37 := Aside0.mk c37
                 clear c37
                 obtain ⟨y255, hy255⟩ : ∃ y_ : List Int, y_ = (x4_1 ++ [(Go.bits .or .i64 (wrap64 (t253 * 16)) t254) % 256]) := ⟨_, rfl⟩
                 replace H : (query_read.l0 kj12 a0 y255 (wrap64 ((ji32) + 1))) = some (r1, r2) := by first | (rw [hy255]; with_reducible exact H) | (have H2_ := (Option.bind_some _ _).symm.trans H; rw [hy255]; with_reducible exact H2_) | (have H2_ := (Option.bind_some _ _).symm.trans H; with_reducible exact H2_) | with_reducible exact H | (rw [hy255]; exact H) | exact H
                 have Ny255 := Aside0.mk hy255
                 clear hy255
                 have H' := Aside0.mk H
                 clear H
                 try go_wp2
                 have n0_ := am_ (Kd.R_drew HO_4.out)
                 have n1_ := am_ (below_drew1 HB.out)
                 clear HO_4 HB
                 have HO_4 := n0_
                 have HB := n1_
                 clear n0_ n1_
                 have p30 : 0 ≤ ((ji27) : Int) := of_decide_eq_true as_
                 have q30 : (ji27) < (a0.size : Int) := of_decide_eq_true as_
                 have hx30 := bt_at a0 (ji27)
                 replace p30 := eq_true p30
                 replace q30 := eq_true q30
                 have p35 : 0 ≤ ((ji32) : Int) := of_decide_eq_true as_
                 have q35 : (ji32) < (a0.size : Int) := of_decide_eq_true as_
                 have hx35 := bt_at a0 (ji32)
                 replace p35 := eq_true p35
                 replace q35 := eq_true q35
                 refine start_ (n := 17) (S := fun w' => True) (ds := []) #[false, false, false, false, false, false, false, false, false, false, false, false, false, false, false, false, false] kr_ rfl rfl trivial (fun hHeld => ?_); refine with_tabW query_read.tab12 query_read.bits12 (fun HT_ HW_ => ?_)
                 generalize wc.drew = w38 at HO_4 HB hHeld ⊢
                 refine pure_ (i := 0) (N := some 52) (v := ?_) (a' := ?_) #[true, false, false, false, false, false, false, false, false, false, false, false, false, false, false, false, false] rfl rfl (any_of HT_.out kr_) (fun _ _ _ h => h) (Or.inl ⟨by rfl, ?_⟩) ?_ ?_
                 rotate_left
                 ·intro w'
                  go_simp
                  with_reducible rfl
                 rotate_left
                 ·simp only [Act.put, sx_, s0_, s1_, i64_w, i32_w]
                  rfl
                 refine pure_ (i := 1) (N := some 53) (v := ?_) (a' := ?_) #[true, true, false, false, false, false, false, false, false, false, false, false, false, false, false, false, false] rfl rfl (any_of HT_.out kr_) (fun _ _ _ h => h) (Or.inl ⟨by rfl, ?_⟩) ?_ ?_
                 rotate_left
                 ·intro w'
                  go_simp
                  with_reducible rfl
                 rotate_left
                 ·simp only [Act.put, sx_, s0_, s1_, i64_w, i32_w]
                  rfl
                 refine pure_ (i := 2) (N := some 54) (v := ?_) (a' := ?_) #[true, true, true, false, false, false, false, false, false, false, false, false, false, false, false, false, false] rfl rfl (any_of HT_.out kr_) (fun _ _ _ h => h) (Or.inl ⟨by rfl, ?_⟩) ?_ ?_
                 rotate_left
                 ·intro w'
                  go_simp
                  with_reducible rfl
                 rotate_left
                 ·simp only [Act.put, sx_, s0_, s1_, i64_w, i32_w]
                  rfl
                 refine pure_ (i := 3) (N := some 55) (v := ?_) (a' := ?_) #[true, true, true, true, false, false, false, false, false, false, false, false, false, false, false, false, false] rfl rfl (any_of HT_.out kr_) (fun _ _ _ h => h) (Or.inl ⟨by rfl, ?_⟩) ?_ ?_
                 rotate_left
                 ·intro w'
                  go_simp
                  with_reducible rfl
                 rotate_left
                 ·simp only [Act.put, sx_, s0_, s1_, i64_w, i32_w]
                  rfl
                 refine pure_ (i := 7) (N := some 59) (v := ?_) (a' := ?_) #[true, true, true, true, false, false, false, true, false, false, false, false, false, false, false, false, false] rfl rfl (any_of HT_.out kr_) (fun _ _ _ h => h) (Or.inl ⟨by rfl, ?_⟩) ?_ ?_
                 rotate_left
                 ·intro w'
                  go_simp
                  with_reducible rfl
                 rotate_left
                 ·simp only [Act.put, sx_, s0_, s1_, i64_w, i32_w]
                  rfl
                 refine pure_ (i := 8) (N := some 60) (v := ?_) (a' := ?_) #[true, true, true, true, false, false, false, true, true, false, false, false, false, false, false, false, false] rfl rfl (any_of HT_.out kr_) (fun _ _ _ h => h) (Or.inl ⟨by rfl, ?_⟩) ?_ ?_
                 rotate_left
                 ·intro w'
                  go_simp
                  with_reducible rfl
                 rotate_left
                 ·simp only [Act.put, sx_, s0_, s1_, i64_w, i32_w]
                  rfl
                 refine pure_ (i := 9) (N := some 61) (v := ?_) (a' := ?_) #[true, true, true, true, false, false, false, true, true, true, false, false, false, false, false, false, false] rfl rfl (any_of HT_.out kr_) (fun _ _ _ h => h) (Or.inl ⟨by rfl, ?_⟩) ?_ ?_
                 rotate_left
                 ·intro w'
                  go_simp
                  with_reducible rfl
                 rotate_left
                 ·simp only [Act.put, sx_, s0_, s1_, i64_w, i32_w]
                  rfl
                 refine take_ (i := 4) (N := some 56) (v := ?_) (a' := ?_) #[true, true, true, true, true, false, false, true, true, true, false, false, false, false, false, false, false] rfl rfl (take_ofW HT_.out HW_.out kr_) (fun _ _ _ h => h) (Or.inl ⟨by rfl, ?_⟩) hHeld ?_ ?_
                 rotate_left
                 ·intro w' _
                  go_simp
                  with_reducible rfl
                 rotate_left
                 ·simp only [Act.put, sx_, s0_, s1_, i64_w, i32_w]
                  rfl
                 refine take_ (i := 10) (N := some 62) (v := ?_) (a' := ?_) #[true, true, true, true, true, false, false, true, true, true, true, false, false, false, false, false, false] rfl rfl (take_ofW HT_.out HW_.out kr_) (fun _ _ _ h => h) (Or.inl ⟨by rfl, ?_⟩) hHeld ?_ ?_
                 rotate_left
                 ·intro w' _
                  go_simp
                  with_reducible rfl
                 rotate_left
                 ·simp only [Act.put, sx_, s0_, s1_, i64_w, i32_w]
                  rfl
                 refine one_ (i := 5) (N := some 57) #[true, true, true, true, true, true, false, true, true, true, true, false, false, false, false, false, false] rfl rfl (one_of HT_.out kr_) (by decide) (fun K hK => ?_)
                 refine goes_ Tryz.func102 kr_ rfl #[.int .u8 (bt a0 (ji27))] (by rfl) rfl rfl (by (try simp only [List.map_toArray, List.map_cons, List.map_nil]); first | done | (simp only [hji27]; rfl) | rfl | (simp only [List.length_drop, List.length_take]; rfl)) ?_
                 with_reducible refine (query_digit.calls (bt a0 (ji27)) t253 _ A31.out).mono ?_
                 rintro e w' ⟨rfl, ⟨nd, rfl⟩⟩
                 refine ⟨_, rfl, ?_⟩
                 refine hK.out _ _ trivial (fun hHeld => ?_)
                 clear hK K
                 refine norm_ (a' := ?_) ?_ ?_
                 rotate_left
                 ·show Act.put _ (some 57) _ = _
                  simp only [Act.put, sx_, s0_, s1_, i64_w, i32_w]
                  rfl
                 refine pure_ (i := 6) (N := some 58) (v := ?_) (a' := ?_) #[true, true, true, true, true, true, true, true, true, true, true, false, false, false, false, false, false] rfl rfl (any_of HT_.out kr_) (fun _ _ _ h => h) (Or.inl ⟨by rfl, ?_⟩) ?_ ?_
                 rotate_left
                 ·intro w'
                  go_simp
                  with_reducible rfl
                 rotate_left
                 ·simp only [Act.put, sx_, s0_, s1_, i64_w, i32_w]
                  rfl
                 refine one_ (i := 11) (N := some 63) #[true, true, true, true, true, true, true, true, true, true, true, true, false, false, false, false, false] rfl rfl (one_of HT_.out kr_) (by decide) (fun K hK => ?_)
                 refine goes_ Tryz.func102 kr_ rfl #[.int .u8 (bt a0 (ji32))] (by rfl) rfl rfl (by (try simp only [List.map_toArray, List.map_cons, List.map_nil]); first | done | (simp only [hji32]; rfl) | rfl | (simp only [List.length_drop, List.length_take]; rfl)) ?_
                 with_reducible refine (query_digit.calls (bt a0 (ji32)) t254 _ A36.out).mono ?_
                 rintro e w' ⟨rfl, ⟨nd, rfl⟩⟩
                 refine ⟨_, rfl, ?_⟩
                 refine hK.out _ _ trivial (fun hHeld => ?_)
                 clear hK K
                 refine norm_ (a' := ?_) ?_ ?_
                 rotate_left
                 ·show Act.put _ (some 63) _ = _
                  simp only [Act.put, sx_, s0_, s1_, i64_w, i32_w]
                  rfl
                 refine pure_ (i := 12) (N := some 64) (v := ?_) (a' := ?_) #[true, true, true, true, true, true, true, true, true, true, true, true, true, false, false, false, false] rfl rfl (any_of HT_.out kr_) (fun _ _ _ h => h) (Or.inl ⟨by rfl, ?_⟩) ?_ ?_
                 rotate_left
                 ·intro w'
                  go_simp
                  with_reducible rfl
                 rotate_left
                 ·simp only [Act.put, sx_, s0_, s1_, i64_w, i32_w]
                  rfl
                 refine pure_ (i := 13) (N := some 65) (v := ?_) (a' := ?_) #[true, true, true, true, true, true, true, true, true, true, true, true, true, true, false, false, false] rfl rfl (any_of HT_.out kr_) (fun _ _ _ h => h) (Or.inl ⟨by rfl, ?_⟩) ?_ ?_
                 rotate_left
                 ·intro w'
                  go_simp
                  with_reducible rfl
                 rotate_left
                 ·simp only [Act.put, sx_, s0_, s1_, i64_w, i32_w]
                  rfl
                 refine one_ (i := 14) (N := some 66) #[true, true, true, true, true, true, true, true, true, true, true, true, true, true, true, false, false] rfl rfl (one_of HT_.out kr_) (by decide) (fun K hK => ?_)
                 refine value_ (w1 := ?_) (v := ?_) (by rfl) rfl ?_ ?_
                 rotate_left 2
                 ·go_simp
                  constructor
                  ·rfl
                  ·rfl
                 refine hK.out _ _ trivial (fun hHeld => ?_)
                 clear hK K
                 refine norm_ (a' := ?_) ?_ ?_
                 rotate_left
                 ·show Act.put _ (some 66) _ = _
                  simp only [Act.put, sx_, s0_, s1_, i64_w, i32_w]
                  rfl
                 refine one_ (i := 15) (N := some 67) #[true, true, true, true, true, true, true, true, true, true, true, true, true, true, true, true, false] rfl rfl (one_of HT_.out kr_) (by decide) (fun K hK => ?_)
                 refine Kd.R_append_step (Kd.int .u8) (w0 := w) w.heap.size (by rfl) (.tmp 52) (.tmp 66) 43 5 (.int .u8 0) 1 rfl Tryz.underlying43 info5 rfl (by decide) (by omega) u4 x4_1 ((Go.bits .or .i64 (wrap64 (t253 * 16)) t254) % 256) [.int .u8 ((Go.bits .or .i64 (wrap64 (t253 * 16)) t254) % 256)] (fun _ => True) (fun _ => False) rfl rfl ?aP (fun _ hk => hk.elim) ?aF ?aO ?aB ?aS ?aL ?_
                 (case aP => exact rfl)
                 (case aB => exact (bel_ HB.out))
                 (case aF => exact (fun _ _ => trivial))
                 (case aO => exact (R_ HO_4.out))
                 (case aS => exact (below_size (bel_ HB.out)))
                 (case aL => have := LMc37.out; omega)
                 intro v256 w39 ho hb hg hat
                 rw [← Ny255.out] at ho
                 have n0_ := am_ (hb)
                 have n1_ := am_ (ho)
                 clear HB HO_4
                 have HB := n0_
                 have HO257 := n1_
                 clear n0_ n1_ ho hb hg hat
                 refine hK.out _ _ trivial (fun hHeld => ?_)
                 clear hK K
                 refine norm_ (a' := ?_) ?_ ?_
                 rotate_left
                 ·show Act.put _ (some 67) _ = _
                  simp only [Act.put, sx_, s0_, s1_, i64_w, i32_w]
                  rfl
                 refine pure_ (i := 16) (N := some 4) (v := ?_) (a' := ?_) #[true, true, true, true, true, true, true, true, true, true, true, true, true, true, true, true, true] rfl rfl (any_of HT_.out kr_) (fun _ _ _ h => h) (Or.inl ⟨by rfl, ?_⟩) ?_ ?_
                 rotate_left
                 ·intro w'
                  go_simp
                  with_reducible rfl
                 rotate_left
                 ·simp only [Act.put, sx_, s0_, s1_, i64_w, i32_w]
                  rfl
                 refine done_ (done_of HT_.out kr_) ?_
                 try go_wp2
                 go_roundg kj12
                 case measure => have := HK1.out; have := HJ12.out; omega
                 case rel => exact ⟨(y255), (wrap64 ((ji32) + 1)), (by first | rfl | (simp; done) | (simp only [← hji32] <;> (first | rfl | simp)) | (simp [*]; done)), (by first | exact H' | (simp only [hji32]; exact H')), ⟨by have := HK1.out; have := HJ12.out; omega⟩, ⟨by (with_reducible repeat (first | apply Kd.R_alloc | apply Kd.R_drewN | apply Kd.R_drew)); exact HO257.out⟩, ⟨bel_ HB.out⟩⟩
                ·rw [if_neg c37] at H
                 exact absurd H (by simp)
               ·rw [if_neg c34] at H
                exact absurd H (by simp)
              ·rw [if_neg c33] at H
               exact absurd H (by simp)
             ·rw [if_neg c29] at H
              exact absurd H (by simp)
            ·rw [if_neg c28] at H
             exact absurd H (by simp)
        ·rw [if_neg c12] at H
         have c12b0 : ((bt a0 x5_1) == 37) = false := beq_eq_false_iff_ne.mpr c12
         have c12b1 : ((bt a0 x5_1) != 37) = true := bne_iff_ne.mpr c12
         by_cases c41 : x4_1.length < 140737488355328
         ·rw [if_pos c41] at H
          have LMc41 := Aside0.mk c41
          clear c41
          obtain ⟨y258, hy258⟩ : ∃ y_ : List Int, y_ = (x4_1 ++ [bt a0 x5_1]) := ⟨_, rfl⟩
          replace H : (query_read.l0 k1 a0 y258 (wrap64 (x5_1 + 1))) = some (r1, r2) := by first | (rw [hy258]; with_reducible exact H) | (have H2_ := (Option.bind_some _ _).symm.trans H; rw [hy258]; with_reducible exact H2_) | (have H2_ := (Option.bind_some _ _).symm.trans H; with_reducible exact H2_) | with_reducible exact H | (rw [hy258]; exact H) | exact H
          have Ny258 := Aside0.mk hy258
          clear hy258
          have H' := Aside0.mk H
          clear H
          have p8 : 0 ≤ (x5_1 : Int) := of_decide_eq_true as_
          have q8 : x5_1 < (a0.size : Int) := of_decide_eq_true as_
          have hx8 := bt_at a0 x5_1
          replace p8 := eq_true p8
          replace q8 := eq_true q8
          have p40 : 0 ≤ (x5_1 : Int) := of_decide_eq_true as_
          have q40 : x5_1 < (a0.size : Int) := of_decide_eq_true as_
          have hx40 := bt_at a0 x5_1
          replace p40 := eq_true p40
          replace q40 := eq_true q40
          go_wp2_with (first | ((with_reducible refine gate_builtin (b := .append) (xs := #[.tmp 18, .tmp 22]) rfl ?_); at_builtin; refine Kd.R_append (Kd.int .u8) (w0 := w) w.heap.size rfl (.tmp 18) (.tmp 22) 43 5 (.int .u8 0) 1 rfl Tryz.underlying43 info5 rfl (by decide) (by omega) u4 x4_1 (bt a0 x5_1) [.int .u8 (bt a0 x5_1)] (fun _ => True) (fun _ => False) rfl rfl ?aP (fun _ hk => hk.elim) ?aF ?aO ?aB ?aS ?aL ?_; (case aP => exact rfl); (case aB => exact (bel_ HB.out)); (case aF => exact (fun _ _ => trivial)); (case aO => exact (R_ HO_4.out)); (case aS => exact (below_size (bel_ HB.out))); (case aL => have := LMc41.out; omega); intro v259 w42 ho hb hg hat; rw [← Ny258.out] at ho; have n0_ := am_ (hb); have n1_ := am_ (ho); clear HB HO_4; have HB := n0_; have HO260 := n1_; clear n0_ n1_ ho hb hg hat))
          go_roundg k1
          case measure => have := HK1.out; omega
          case rel => exact ⟨(y258), (wrap64 (x5_1 + 1)), sd_, H', ⟨by have := HK1.out; omega⟩, ⟨by (with_reducible repeat (first | apply Kd.R_alloc | apply Kd.R_drewN | apply Kd.R_drew)); exact HO260.out⟩, ⟨bel_ HB.out⟩⟩
         ·rw [if_neg c41] at H
          exact absurd H (by simp)
      ·rw [if_neg c7] at H
       exact absurd H (by simp)
     ·rw [if_neg c6] at H
      have c6b0 : decide (x5_1 < (a0.size : Int)) = false := decide_eq_false c6
      clear c6
      simp only [Option.some.injEq, Prod.mk.injEq] at H
      obtain ⟨rfl, rfl⟩ := H
      have hcv43 := own_string (P := Tryz.prog) Tryz.underlying43 Tryz.underlying5 Tryz.underlying9 (Kd.own_of_R HO_4.out)
      go_wp2
      go_ret2
      exact ⟨fi_, bel_ HB.out⟩
  ·rw [if_neg c3] at H
   exact absurd H (by simp)
 ·rw [if_neg c2] at H
  exact absurd H (by simp)

/-! ### in_list: an operation of a round, by the law of one that stands alone -/
def InK (F : Fence) (n : Nat) (P : Program) (ops : Array Oper) (Q : Exit → Act → World → Prop) (rest : List Oper) : Exit → Act → World → Prop := fun e a w => e = .normal ∧ wpListIn F n P ops Q rest a w
theorem gateIn_builtin {F : Fence} {n : Nat} {P : Program} {ops : Array Oper} {Q : Exit → Act → World → Prop} {rest : List Oper} {a : Act} {W : World} {o : Oper} {b : Builtin} {xs : Array Operand} {ts : Array TypeId} (_ho : o.op = .call { callee := .builtin b, args := xs, argTypes := ts }) (h : wpListIn F n P ops Q (o :: rest) a W) : wpListIn F n P ops Q (o :: rest) a W := h
theorem in_list {n l : Nat} {P : Program} {ops : Array Oper} {Q : Exit → Act → World → Prop} {rest : List Oper} {o : Oper} {a : Act} {W : World} (hnd : ∀ c, o.op ≠ .defer c) (hg : o.guard = none)
  (h : wpList P ops (InK (Fence.wide.inRound l) n P ops Q rest) [o] a W) : wpListIn (Fence.wide.inRound l) n P ops Q (o :: rest) a W := by
 refine wpListIn_plain hg fun K hK => ⟨fun _ _ => trivial, ?_⟩
 rw [show (Fence.wide.inRound l).round = some l from rfl, Oper.semAt_some l a.eval o hnd]
 simp only [wpList, Region.wanted, hg, if_true] at h
 rcases h with h | ⟨_, _, _, h, _⟩
 ·unfold Oper.wp at h
  generalize (execOp a.eval o).run P W = r at h ⊢
  cases r with
  | ok nx w' =>
   cases nx with
   | value v => exact hK _ _ h.2
   | skip => exact hK _ _ h.2
   | defer d => exact hK _ _ h.2
   | enter f args =>
    refine ⟨fun h2 => (by cases h2), CallsIn.inRound l (callsIn_wide.2 (Calls.mono h ?_))⟩
    intro e w2 he
    cases e with
    | returned v => exact hK _ _ he.2
    | panicked c => obtain ⟨h3, _⟩ := he; cases h3
    | outgrown => obtain ⟨_, _, h3, _⟩ := he; cases h3
   | row r args => exact ⟨fun h2 => (by cases h2), fun c cs hroom => by
     obtain ⟨v, w2, h3, h4⟩ := h c cs
     exact ⟨v, w2, hK _ _ h3.2, stepsIn_wide.2 h4⟩⟩
   | _ => exact h.elim
  | halt hh w' =>
   cases hh with
   | panic v => obtain ⟨h3, _⟩ := h; cases h3
   | _ => exact h.elim
 ·cases h
theorem inK_nil {F : Fence} {n : Nat} {P : Program} {ops : Array Oper} {Q : Exit → Act → World → Prop} {rest : List Oper} {a : Act} {W : World} (h : wpListIn F n P ops Q rest a W) : wpList P ops (InK F n P ops Q rest) [] a W := ⟨rfl, h⟩
/-- A row of one's own stays where a block that is no cells' is turned. -/
theorem R_row {α : Type} {d : Kd α} {e base : Nat} {ok : Nat → Prop} {A B : World} {v : Value} {xs : List α} (h : d.R e A base ok v xs) {row : Option Nat} (hg : A.grownBy B row) (hr : ∀ r, row = some r → ∃ o : Obj, A.heap[r]? = some o ∧ o.isCells = false) : d.R e B base ok v xs :=
 Kd.R_mono (Kd.R_grown (Kd.R_bound h) hg (fun k hk e => by
  obtain ⟨_, _, _, q, _, cells, hc⟩ := hk
  obtain ⟨o, ho, hn⟩ := hr k e.symm
  rw [hc] at ho
  cases ho
  cases hn)) (fun _ hk => hk.1)
theorem R_put_walk {α : Type} {d : Kd α} {e base : Nat} {ok : Nat → Prop} {A : World} {v : Value} {xs : List α} (h : d.R e A base ok v xs) {D : Nat} {o o' : Obj} (hD : A.heap[D]? = some o) (hn : o.isCells = false) : d.R e (A.putObj D o') base ok v xs :=
 R_row h (grownBy_putObj' A D o') (fun r e => by cases e; exact ⟨o, hD, hn⟩)
theorem R_own_cells {α : Type} {d : Kd α} {e base : Nat} {ok : Nat → Prop} {A : World} {v : Value} {xs : List α} (h : d.R e A base ok v xs) {k : Nat} (hk : some k = v.ownBlock) : ok k ∧ ∃ cells q, A.heap[k]? = some (.cells cells q (0, 0)) := by
 obtain ⟨h1, _, _, q, _, cells, hc⟩ := (Kd.R_bound h).1 k hk.symm
 exact ⟨h1, cells, q, hc⟩

/-! ### query_Parse: function 79 -/
/-- A query's parts, one behind the other. -/
def query_Parse.go (k : Nat) : List ByteArray → List S51 → Option (Option (List S51))
 | [], acc => some (some acc)
 | p :: ps, acc => (strings_Cut.f k p ⟨#[61]⟩).bind fun c => (query_read.f k c.1).bind fun a => (query_read.f k c.2.1).bind fun b =>
   if a.2 = true then (if b.2 = true then (if acc.length < 4398046511104 then query_Parse.go k ps (acc ++ [⟨a.1, b.1⟩]) else none) else some none) else some none
def query_Parse.end_ (k : Nat) : Option (List S51) → Option (List S51 × Int)
 | none => some ([], 2)
 | some l => (query_May.f k l).bind fun m => if m = true then some (l, 0) else some ([], 2)
def query_Parse.f (k : Nat) (a0 : ByteArray) : Option ((List S51) × Int) := if a0.toList = ([] : List UInt8) then some ([], 0) else if a0.size ≤ 140737488355328 then (query_Parse.go k (pieces 38 a0) []).bind fun o => query_Parse.end_ k o else none
theorem query_Parse.go_mono (k : Nat) : ∀ (ps : List ByteArray) (acc : List S51), LeO (query_Parse.go k ps acc) (query_Parse.go (k + 1) ps acc)
 | [], _ => LeO.refl _
 | p :: ps, acc => by
  have ih := query_Parse.go_mono k ps
  simp only [query_Parse.go]
  repeat' first
   | exact LeO.refl _
   | exact ih _
   | exact strings_Cut.mono _ _ _
   | exact query_read.mono _ _
   | refine LeO.ite ?_ ?_
   | refine LeO.bind ?_ (fun _ => ?_)
theorem query_Parse.mono : ∀ a0 k, LeO (query_Parse.f k a0) (query_Parse.f (k + 1) a0) := by
 intro a0 k
 unfold query_Parse.f
 refine LeO.ite (LeO.refl _) (LeO.ite (LeO.bind (query_Parse.go_mono k _ _) (fun o => ?_)) (LeO.refl _))
 cases o with
 | none => exact LeO.refl _
 | some l => exact LeO.bind (query_May.mono _ _) (fun _ => LeO.refl _)
/-- What holds between two parts: what has been read of them lies in the call's own row. -/
structure query_Parse.Inv (k b : Nat) (pre : List ByteArray) (W : World) : Prop where
 ex : ∃ (acc : List S51) (v : Value), (∀ rest, query_Parse.go k (pre ++ rest) [] = query_Parse.go k rest acc) ∧ W.cell? ⟨b + 2, 0, none⟩ = some v ∧ Kd.R k51 51 W b (fun q => b + 6 ≤ q) v acc
 f2 : W.frozen? ⟨b + 2, 0, none⟩ = false
 c0 : W.cell? ⟨b, 0, none⟩ = some (.slice none 0 0)
 f0 : W.frozen? ⟨b, 0, none⟩ = false
 c1 : W.cell? ⟨b + 1, 0, none⟩ = some (.int .i64 0)
 f1 : W.frozen? ⟨b + 1, 0, none⟩ = false
 sz : b + 6 ≤ W.heap.size
theorem query_Parse.Inv.grown {k b : Nat} {pre : List ByteArray} {A B : World} (h : query_Parse.Inv k b pre A) {row : Option Nat} (hg : A.grownBy B row) (hr : ∀ r, row = some r → ∃ o : Obj, A.heap[r]? = some o ∧ o.isCells = false) : query_Parse.Inv k b pre B := by
 obtain ⟨acc, v, h1, h2, h3⟩ := h.ex
 exact ⟨⟨acc, v, h1, Go.cell_kept h2 hg hr, R_row h3 hg hr⟩, (Go.frozen_kept h2 hg hr).trans h.f2, Go.cell_kept h.c0 hg hr, (Go.frozen_kept h.c0 hg hr).trans h.f0, Go.cell_kept h.c1 hg hr, (Go.frozen_kept h.c1 hg hr).trans h.f1, Nat.le_trans h.sz hg.size⟩
theorem query_Parse.Inv.box {k b : Nat} {pre : List ByteArray} {A : World} (h : query_Parse.Inv k b pre A) (u : Value) : query_Parse.Inv k b pre (A.setCell ⟨b + 3, 0, none⟩ u) := by
 obtain ⟨acc, v, h1, h2, h3⟩ := h.ex
 have far : ∀ q, q ≠ b + 3 → (A.setCell ⟨b + 3, 0, none⟩ u).cell? ⟨q, 0, none⟩ = A.cell? ⟨q, 0, none⟩ := fun q hq => World.cell?_setCell_far A ⟨b + 3, 0, none⟩ ⟨q, 0, none⟩ u (by simp; omega)
 refine ⟨⟨acc, v, h1, (far _ (by omega)).trans h2, Kd.R_far h3 (fun q hq => by show q ≠ b + 3; omega) u⟩, ?_, (far _ (by omega)).trans h.c0, ?_, (far _ (by omega)).trans h.c1, ?_, by simpa using h.sz⟩
 ·rw [World.frozen?_setCell]; exact h.f2
 ·rw [World.frozen?_setCell]; exact h.f0
 ·rw [World.frozen?_setCell]; exact h.f1
theorem query_Parse.Inv.below {k b : Nat} {pre : List ByteArray} {A B : World} (h : query_Parse.Inv k b pre A) (hb : Below A.heap.size A B) : query_Parse.Inv k b pre B := by
 have hs := h.sz
 obtain ⟨acc, v, h1, h2, h3⟩ := h.ex
 have fz : ∀ q, q < A.heap.size → B.frozen? ⟨q, 0, none⟩ = A.frozen? ⟨q, 0, none⟩ := fun q hq => World.frozen?_of_block (a := ⟨q, 0, none⟩) (hb.block _ hq)
 exact ⟨⟨acc, v, h1, (hb.cell (p := ⟨b + 2, 0, none⟩) (by show b + 2 < _; omega)).trans h2, Kd.R_below h3 hb⟩, (fz _ (by omega)).trans h.f2, (hb.cell (p := ⟨b, 0, none⟩) (by show b < _; omega)).trans h.c0, (fz _ (by omega)).trans h.f0, (hb.cell (p := ⟨b + 1, 0, none⟩) (by show b + 1 < _; omega)).trans h.c1, (fz _ (by omega)).trans h.f1, Nat.le_trans hs hb.size⟩
/-- One part more lies in the row. -/
theorem query_Parse.Inv.next {k b : Nat} {pre : List ByteArray} {x : ByteArray} {A B : World} {acc : List S51} {v v1 : Value} {p : S51} (h : query_Parse.Inv k b pre A) (hadv : ∀ rest, query_Parse.go k ((pre ++ [x]) ++ rest) [] = query_Parse.go k rest (acc ++ [p]))
  (hR3 : Kd.R k51 51 A b (fun q => b + 6 ≤ q) v acc) (hR4 : Kd.R k51 51 B b (fun q => b + 6 ≤ q) v1 (acc ++ [p])) (hg : A.grownBy B v.ownBlock) :
  query_Parse.Inv k b (pre ++ [x]) (B.setCell ⟨b + 2, 0, none⟩ v1) ∧ Keeps3 (b + 3) A (B.setCell ⟨b + 2, 0, none⟩ v1) ∧ KeepsFrom (b + 6) A (B.setCell ⟨b + 2, 0, none⟩ v1) := by
 have hs := h.sz
 obtain ⟨_, v0, _, h2, _⟩ := h.ex
 have lo : ∀ q, q < b + 6 → B.heap[q]? = A.heap[q]? := fun q hq => hg.block q (by omega) (fun e => by have := (R_own_cells hR3 e).1; omega)
 have ce : ∀ q, q < b + 6 → B.cell? ⟨q, 0, none⟩ = A.cell? ⟨q, 0, none⟩ := fun q hq => World.cell?_of_block (a := ⟨q, 0, none⟩) (lo q hq)
 have fz : ∀ q, q < b + 6 → B.frozen? ⟨q, 0, none⟩ = A.frozen? ⟨q, 0, none⟩ := fun q hq => World.frozen?_of_block (a := ⟨q, 0, none⟩) (lo q hq)
 have far : ∀ q, q ≠ b + 2 → (B.setCell ⟨b + 2, 0, none⟩ v1).cell? ⟨q, 0, none⟩ = B.cell? ⟨q, 0, none⟩ := fun q hq => World.cell?_setCell_far B ⟨b + 2, 0, none⟩ ⟨q, 0, none⟩ v1 (by simp; omega)
 refine ⟨⟨⟨_, v1, hadv, World.cell?_setCell_same' B ⟨b + 2, 0, none⟩ v1 (by rw [ce _ (by omega), h2]; rfl), Kd.R_far hR4 (fun q hq => by show q ≠ b + 2; omega) v1⟩, ?_, (far _ (by omega)).trans ((ce _ (by omega)).trans h.c0), ?_, (far _ (by omega)).trans ((ce _ (by omega)).trans h.c1), ?_, ?_⟩, ?_, ?_⟩
 ·rw [World.frozen?_setCell, fz _ (by omega)]; exact h.f2
 ·rw [World.frozen?_setCell, fz _ (by omega)]; exact h.f0
 ·rw [World.frozen?_setCell, fz _ (by omega)]; exact h.f1
 ·have := hg.size; simp; omega
 ·intro q h1 h3
  rw [Below.heap_setCell B ⟨b + 2, 0, none⟩ v1 q (by show q ≠ b + 2; omega)]
  exact lo q (by omega)
 ·refine KeepsFrom.trans (Y := B) ⟨hg.size, fun q o _ hq hn => ?_⟩ ((KeepsOthers.setCell B ⟨b + 2, 0, none⟩ v1).from _)
  rw [hg.block q (Array.getElem?_eq_some_iff.1 hq).1 (fun e => by
   obtain ⟨_, cells, u, hc⟩ := R_own_cells hR3 e
   rw [hq] at hc
   cases hc
   cases hn)]
  exact hq
section
attribute [local go_sem] Oper.semAt_some
set_option maxHeartbeats 8000000 in
set_option maxRecDepth 100000 in
theorem query_Parse.calls (k : Nat) (a0 : ByteArray) (r1 : List S51) (r2 : Int) (w : World) (h : query_Parse.f k a0 = some (r1, r2)) :
  Calls Tryz.prog 79 #[.string a0] w fun e w' => ∃ v0_ : Value, e = .returned (.tuple #[v0_, .int .i64 r2]) ∧ Kd.R k51 51 w' w.heap.size (fun _ => True) v0_ r1 ∧ Below w.heap.size w w' := by
 refine (callsIn_wide (n := 4)).1 ?_
 refine callsIn_of_wp_marks Tryz.func79 rfl trivial ?_ rfl
 simp only [Tryz.ntmps79, List.size_toArray, List.length_cons, List.length_nil, Nat.reduceAdd, Nat.reduceSub, Array.replicate_succ, Array.replicate_zero, List.push_toArray, List.append_toArray, List.nil_append, List.cons_append]
 unfold query_Parse.f at h
 by_cases h0 : a0.toList = ([] : List UInt8)
 ·rw [if_pos h0] at h
  have hq := Option.some.inj h
  simp only [Prod.mk.injEq] at hq
  obtain ⟨rfl, rfl⟩ := hq
  have hb0 : (a0.toList == ([] : List UInt8)) = true := beq_iff_eq.2 h0
  clear h h0
  gi_wp2
  have z0 := new_l w (.slice none 0 0) 22
  have z1 := new_l (w.alloc (.cells #[.slice none 0 0] 22)) (.int .i64 0) 27
  have y0 := kept_l (.cells #[.int .i64 0] 27) z0.1
  simp only [World.size_alloc] at z1
  show LeavesIn _ _ _ _ _ _ _ _ _
  refine ⟨.tuple #[.slice none 0 0, .int .i64 0], ?_, ⟨_, rfl, Kd.R_nil _ _ _ _ _, ((Below.refl _ w).alloc (Nat.le_refl _) _).alloc (by simp) _⟩⟩
  simp [results, Tryz.f79, go_sem, y0, z1.1]
 ·rw [if_neg h0] at h
  have hb0 : (a0.toList == ([] : List UInt8)) = false := beq_eq_false_iff_ne.2 h0
  by_cases hl : a0.size ≤ 140737488355328
  ·rw [if_pos hl] at h
   obtain ⟨o, hgo, hend⟩ := Option.bind_eq_some_iff.1 h
   clear h h0
   gi_wp2_with (refine ⟨trivial, ?_⟩; gi_at_call 46; refine (callsIn_wide.2 (seq_at _ _ _)).mono ?_; rintro e w' ⟨n, rfl, rfl⟩)
   obtain ⟨V, hV⟩ : ∃ V, V = ((w.alloc (.cells #[.slice none 0 0] 22)).alloc (.cells #[.int .i64 0] 27)).alloc (.cells #[.slice none 0 0] 22) := ⟨_, rfl⟩
   have z0 := new_l w (.slice none 0 0) 22
   have z1 := new_l (w.alloc (.cells #[.slice none 0 0] 22)) (.int .i64 0) 27
   have z2 := new_l ((w.alloc (.cells #[.slice none 0 0] 22)).alloc (.cells #[.int .i64 0] 27)) (.slice none 0 0) 22
   have y0 := kept_l (.cells #[.int .i64 0] 27) z0.1
   have g0 := kept_f (.cells #[.int .i64 0] 27) z0.1 z0.2
   have x0 := kept_l (.cells #[.slice none 0 0] 22) y0
   have e0 := kept_f (.cells #[.slice none 0 0] 22) y0 g0
   simp only [World.size_alloc] at z1 z2
   have x1 := kept_l (.cells #[.slice none 0 0] 22) z1.1
   have e1 := kept_f (.cells #[.slice none 0 0] 22) z1.1 z1.2
   rw [← hV] at x0 e0 x1 e1 z2
   have hsV : V.heap.size = w.heap.size + 3 := by rw [hV]; simp
   have hBV : Below w.heap.size w V := by rw [hV]; exact ((((Below.refl _ w).alloc (Nat.le_refl _) _).alloc (by simp) _).alloc (by simp; omega) _)
   (try simp only [World.size_alloc])
   (try rw [← hV])
   obtain ⟨W0, hW0⟩ : ∃ W0, W0 = (((V.alloc (.cells #[.string a0] 9)).alloc (.cells #[.string ⟨#[38]⟩] 9)).alloc (.cells #[.int .i64 0] 3)).drewN n := ⟨_, rfl⟩
   have hs0 : W0.heap.size = w.heap.size + 6 := by rw [hW0]; simp; omega
   have q0 := new_l V (.string a0) 9
   have q1 := new_l (V.alloc (.cells #[.string a0] 9)) (.string ⟨#[38]⟩) 9
   have q2 := new_l ((V.alloc (.cells #[.string a0] 9)).alloc (.cells #[.string ⟨#[38]⟩] 9)) (.int .i64 0) 3
   simp only [World.size_alloc, hsV] at q0 q1 q2
   have hVW : Below V.heap.size V W0 := by rw [hW0]; exact (((((Below.refl _ V).alloc (Nat.le_refl _) _).alloc (by simp) _).alloc (by simp; omega) _)).trans ⟨rfl, rfl, rfl, Nat.le_refl _, fun _ _ => rfl⟩
   have b0 : Boxes3 (w.heap.size + 3) a0 ⟨#[38]⟩ W0 := by
    rw [hW0]
    have y2 := kept_l (.cells #[.string ⟨#[38]⟩] 9) q0.1
    exact ⟨kept_l _ y2, kept_f _ y2 (kept_f _ q0.1 q0.2), kept_l _ q1.1, q2.1⟩
   have hB0 : Below w.heap.size w W0 := hBV.trans (hVW.mono hBV.size)
   have fz : ∀ q, q < V.heap.size → W0.frozen? ⟨q, 0, none⟩ = V.frozen? ⟨q, 0, none⟩ := fun q hq => World.frozen?_of_block (a := ⟨q, 0, none⟩) (hVW.block _ hq)
   have hI0 : query_Parse.Inv k w.heap.size [] W0 :=
    ⟨⟨[], .slice none 0 0, fun rest => rfl, (hVW.cell (p := ⟨w.heap.size + 2, 0, none⟩) (by show _ + 2 < _; omega)).trans z2.1, Kd.R_nil _ _ _ _ _⟩, (fz _ (by omega)).trans z2.2, (hVW.cell (p := ⟨w.heap.size, 0, none⟩) (by show w.heap.size < _; omega)).trans x0, (fz _ (by omega)).trans e0, (hVW.cell (p := ⟨w.heap.size + 1, 0, none⟩) (by show _ + 1 < _; omega)).trans x1, (fz _ (by omega)).trans e1, by omega⟩
   rw [← hW0]
   simp only [Nat.add_assoc, Nat.reduceAdd]
   refine wpIn_range_cell rfl (by omega) (gf := 92) (lb := #[.pointer (some ⟨w.heap.size + 4, 0, none⟩), .pointer (some ⟨w.heap.size + 3, 0, none⟩), .pointer (some ⟨w.heap.size + 5, 0, none⟩)]) rfl trivial (enters_of Tryz.func92 kr_ rfl)
    (seq1_stops 38 a0 hl (w.heap.size + 3) W0 (by omega) b0) (fun h k i h1 h2 => (k i h1 h2).trans (h i h1 h2)) (fun W l o o' hl _ _ _ k h1 h2 => World.putObj_heap_other (by omega)) (Below.refl _ _) (fun _ => rfl)
    (fun pre W => query_Parse.Inv k w.heap.size pre W ∧ Below w.heap.size w W)
    (fun pre W => (o = none ∧ W.cell? ⟨w.heap.size, 0, none⟩ = some (.slice none 0 0) ∧ W.cell? ⟨w.heap.size + 1, 0, none⟩ = some (.int .i64 2)) ∧ Below w.heap.size w W)
    (OwnFrom.and (Own.from (fun s A B row hs hg hr => hs.grown hg hr) _) (ownFrom_below (Nat.le_refl _) (by omega)))
    (OwnFrom.and (Own.from (fun s A B row hs hg hr => ⟨hs.1, Go.cell_kept hs.2.1 hg hr, Go.cell_kept hs.2.2 hg hr⟩) _) (ownFrom_below (Nat.le_refl _) (by omega)))
    (fun s A v hs => ⟨hs.1.box v, hs.2.setCell (p := ⟨w.heap.size + 3, 0, none⟩) (by simp) _⟩)
    (fun _ _ _ => trivial)
    ⟨hI0, hB0⟩
    (fun x => { tmps := #[.string a0, undef, .pointer (some ⟨w.heap.size, 0, none⟩), .pointer (some ⟨w.heap.size + 1, 0, none⟩), .pointer (some ⟨w.heap.size + 2, 0, none⟩), .string x, undef, undef, undef, undef, undef, undef, undef, .string a0, .bool false, .string a0, .func (.func 92) #[] #[.pointer (some ⟨w.heap.size + 4, 0, none⟩), .pointer (some ⟨w.heap.size + 3, 0, none⟩), .pointer (some ⟨w.heap.size + 5, 0, none⟩)], .string x, undef, undef, undef, undef, undef, undef, undef, undef, undef, undef, undef, undef, undef, undef, undef, undef, undef, undef, undef, undef, undef, undef, undef, undef, undef, undef, undef, undef, undef, undef, undef, undef], defers := [] }) ?assign ?body ?done ?stop
   case assign =>
    intro l x W K hK
    gi_wp2
    exact hK
   case body =>
    rintro l pre x W ⟨hI, hB⟩ ⟨rest, hrest⟩
    obtain ⟨acc, v, hadv, hc2, hR⟩ := hI.ex
    have HR := Aside0.mk hR
    have HC2 := Aside0.mk hc2
    have hsz := hI.sz
    have hg : query_Parse.go k (x :: rest) acc = some o := by
     rw [← hadv, ← hgo, ← hrest, List.append_assoc]
     rfl
    simp only [query_Parse.go] at hg
    obtain ⟨⟨p1, p2, p3⟩, hcut, hg⟩ := Option.bind_eq_some_iff.1 hg
    obtain ⟨⟨a1, ab⟩, hra, hg⟩ := Option.bind_eq_some_iff.1 hg
    obtain ⟨⟨b1, bb⟩, hrb, hg⟩ := Option.bind_eq_some_iff.1 hg
    simp only at hra hrb hg
    have HI := Aside0.mk hI
    have HB := Aside0.mk hB
    have HCUT := Aside0.mk hcut
    have HRA := Aside0.mk hra
    have HRB := Aside0.mk hrb
    have HG := Aside0.mk hg
    have HADV := Aside0.mk hadv
    have HGO := Aside0.mk hgo
    have HEND := Aside0.mk hend
    have HSZ := Aside0.mk hsz
    clear hI hB hcut hra hrb hg hadv hgo hend hsz hc2 hR
    cases ab with
    | false =>
     gi_wp2_with (first | (refine ⟨trivial, ?_⟩; gi_at_call 78; with_reducible refine (CallsIn.inRound l (callsIn_wide.2 (strings_Cut.calls k x ⟨#[61]⟩ p1 p2 p3 _ HCUT.out))).mono ?_; rintro e w1 ⟨rfl, hd1⟩; replace hd1 : Below _ _ _ := (by first | exact hd1.below | exact hd1); have HD1 := Aside0.mk hd1; clear hd1) | (refine ⟨trivial, ?_⟩; gi_at_call 94; with_reducible refine (CallsIn.inRound l (callsIn_wide.2 (query_read.calls k p1 a1 false _ HRA.out))).mono ?_; rintro e w2 ⟨rfl, hd2⟩; replace hd2 : Below _ _ _ := (by first | exact hd2.below | exact hd2); have HD2 := Aside0.mk hd2; clear hd2) | (refine ⟨trivial, ?_⟩; gi_at_call 94; with_reducible refine (CallsIn.inRound l (callsIn_wide.2 (query_read.calls k p2 b1 bb _ HRB.out))).mono ?_; rintro e w3 ⟨rfl, hd3⟩; replace hd3 : Below _ _ _ := (by first | exact hd3.below | exact hd3); have HD := am_ ((HD1.out.trans (HD2.out.mono HD1.out.size)).trans (hd3.mono (Nat.le_trans HD1.out.size HD2.out.size))); have HI3 := am_ (HI.out.below HD.out); clear hd3; have hf0 := HI3.out.f0; have hc0 := HI3.out.c0; have hf1 := HI3.out.f1; have hc1 := HI3.out.c1))
     have hk3 : KeepsFrom (w.heap.size + 6) W w3 := ⟨HD.out.size, fun q o' _ hq _ => (HD.out.block q (Array.getElem?_eq_some_iff.1 hq).1).trans hq⟩
     exact ⟨(hk3.trans ((KeepsOthers.setCell w3 _ _).from _)).trans ((KeepsOthers.setCell _ _ _).from _), (Option.some.inj (show some none = some o from (if_neg (by decide)).symm.trans HG.out)).symm, ((HB.out.trans (HD.out.mono HB.out.size)).setCell (p := ⟨w.heap.size, 0, none⟩) (by simp) _).setCell (p := ⟨w.heap.size + 1, 0, none⟩) (by simp) _⟩
    | true =>
     have HG2 := am_ (show _ = some o from (if_pos rfl).symm.trans HG.out)
     cases bb with
     | false =>
      gi_wp2_with (first | (refine ⟨trivial, ?_⟩; gi_at_call 78; with_reducible refine (CallsIn.inRound l (callsIn_wide.2 (strings_Cut.calls k x ⟨#[61]⟩ p1 p2 p3 _ HCUT.out))).mono ?_; rintro e w1 ⟨rfl, hd1⟩; replace hd1 : Below _ _ _ := (by first | exact hd1.below | exact hd1); have HD1 := Aside0.mk hd1; clear hd1) | (refine ⟨trivial, ?_⟩; gi_at_call 94; with_reducible refine (CallsIn.inRound l (callsIn_wide.2 (query_read.calls k p1 a1 true _ HRA.out))).mono ?_; rintro e w2 ⟨rfl, hd2⟩; replace hd2 : Below _ _ _ := (by first | exact hd2.below | exact hd2); have HD2 := Aside0.mk hd2; clear hd2) | (refine ⟨trivial, ?_⟩; gi_at_call 94; with_reducible refine (CallsIn.inRound l (callsIn_wide.2 (query_read.calls k p2 b1 false _ HRB.out))).mono ?_; rintro e w3 ⟨rfl, hd3⟩; replace hd3 : Below _ _ _ := (by first | exact hd3.below | exact hd3); have HD := am_ ((HD1.out.trans (HD2.out.mono HD1.out.size)).trans (hd3.mono (Nat.le_trans HD1.out.size HD2.out.size))); have HI3 := am_ (HI.out.below HD.out); clear hd3; have hf0 := HI3.out.f0; have hc0 := HI3.out.c0; have hf1 := HI3.out.f1; have hc1 := HI3.out.c1))
      have hk3 : KeepsFrom (w.heap.size + 6) W w3 := ⟨HD.out.size, fun q o' _ hq _ => (HD.out.block q (Array.getElem?_eq_some_iff.1 hq).1).trans hq⟩
      exact ⟨(hk3.trans ((KeepsOthers.setCell w3 _ _).from _)).trans ((KeepsOthers.setCell _ _ _).from _), (Option.some.inj (show some none = some o from (if_neg (by decide)).symm.trans HG2.out)).symm, ((HB.out.trans (HD.out.mono HB.out.size)).setCell (p := ⟨w.heap.size, 0, none⟩) (by simp) _).setCell (p := ⟨w.heap.size + 1, 0, none⟩) (by simp) _⟩
     | true =>
      have HG3 := am_ (show _ = some o from (if_pos rfl).symm.trans HG2.out)
      by_cases hlen : acc.length < 4398046511104
      ·have HLEN := am_ (show (acc.length + 1) * 32 ≤ 140737488355328 by omega)
       have HADV2 := am_ (show ∀ rest, query_Parse.go k ((pre ++ [x]) ++ rest) [] = query_Parse.go k rest (acc ++ [⟨a1, b1⟩]) from fun rest => by
        rw [List.append_assoc, HADV.out]
        show query_Parse.go k (x :: rest) acc = _
        simp only [query_Parse.go, HCUT.out, HRA.out, HRB.out, Option.bind_some, if_true]
        rw [if_pos hlen])
       clear hlen
       gi_wp2_with (first | (refine ⟨trivial, ?_⟩; gi_at_call 78; with_reducible refine (CallsIn.inRound l (callsIn_wide.2 (strings_Cut.calls k x ⟨#[61]⟩ p1 p2 p3 _ HCUT.out))).mono ?_; rintro e w1 ⟨rfl, hd1⟩; replace hd1 : Below _ _ _ := (by first | exact hd1.below | exact hd1); have HD1 := Aside0.mk hd1; clear hd1) | (refine ⟨trivial, ?_⟩; gi_at_call 94; with_reducible refine (CallsIn.inRound l (callsIn_wide.2 (query_read.calls k p1 a1 true _ HRA.out))).mono ?_; rintro e w2 ⟨rfl, hd2⟩; replace hd2 : Below _ _ _ := (by first | exact hd2.below | exact hd2); have HD2 := Aside0.mk hd2; clear hd2) | (refine ⟨trivial, ?_⟩; gi_at_call 94; with_reducible refine (CallsIn.inRound l (callsIn_wide.2 (query_read.calls k p2 b1 true _ HRB.out))).mono ?_; rintro e w3 ⟨rfl, hd3⟩; replace hd3 : Below _ _ _ := (by first | exact hd3.below | exact hd3); have HD := am_ ((HD1.out.trans (HD2.out.mono HD1.out.size)).trans (hd3.mono (Nat.le_trans HD1.out.size HD2.out.size))); have HI3 := am_ (HI.out.below HD.out); clear hd3; have hc2 : w3.cell? ⟨w.heap.size + 2, 0, none⟩ = some v := (HD.out.cell (p := ⟨w.heap.size + 2, 0, none⟩) (by have := HSZ.out; show w.heap.size + 2 < _; omega)).trans HC2.out; have HR3 := am_ (Kd.R_below HR.out HD.out); have HBW := am_ (HB.out.trans (HD.out.mono HB.out.size)); skip) | ((with_reducible refine gateIn_builtin (b := .append) (xs := #[.tmp 40, .tmp 44]) rfl ?_); refine in_list (fun c h => by cases h) rfl ?_; refine Kd.R_append k51 (w0 := w) w.heap.size rfl (.tmp 40) (.tmp 44) 22 51 (.agg #[(.string ⟨#[]⟩), (.string ⟨#[]⟩)]) 32 rfl Tryz.underlying22 info51 rfl (by decide) (by omega) v acc ⟨a1, b1⟩ [.string a1, .string b1] (fun q => w.heap.size + 6 ≤ q) (fun _ => False) rfl rfl (k51_mkM _ _ _ _) (fun _ h => h.elim) (fun q hq => Nat.le_trans HI3.out.sz hq) HR3.out HBW.out HBW.out.size HLEN.out ?_; intro v1 w4 hR4 hb4 hg4 _; obtain ⟨A4, c4, rfl⟩ := Kd.R_slice hR4; have HN := am_ (query_Parse.Inv.next (x := x) HI3.out HADV2.out HR3.out hR4 hg4); have HBF := Aside0.mk hb4; have hc2' : w4.cell? ⟨w.heap.size + 2, 0, none⟩ = some v := (World.cell?_of_block (a := ⟨w.heap.size + 2, 0, none⟩) (hg4.block (w.heap.size + 2) (by have := HI3.out.sz; omega) (fun e => by have := (R_own_cells HR3.out e).1; omega))).trans hc2; have hf2' : w4.frozen? ⟨w.heap.size + 2, 0, none⟩ = false := (World.frozen?_of_block (a := ⟨w.heap.size + 2, 0, none⟩) (hg4.block (w.heap.size + 2) (by have := HI3.out.sz; omega) (fun e => by have := (R_own_cells HR3.out e).1; omega))).trans HI3.out.f2; clear hR4 hb4 hg4; refine inK_nil ?_))
       have hk3 : KeepsFrom (w.heap.size + 6) W w3 := ⟨HD.out.size, fun q o' _ hq _ => (HD.out.block q (Array.getElem?_eq_some_iff.1 hq).1).trans hq⟩
       have hk4 : Keeps3 (w.heap.size + 3) W w3 := fun q h1 h2 => HD.out.block q (by have := HSZ.out; omega)
       have hl1 : (acc ++ [(⟨a1, b1⟩ : S51)]).length = acc.length + 1 := by rw [List.length_append]; rfl
       have HN2 := HN.out
       rw [hl1] at HN2
       exact ⟨hk3.trans HN2.2.2, fun q h1 h2 => (HN2.2.1 q h1 h2).trans (hk4 q h1 h2), HN2.1, HBF.out.setCell (p := ⟨w.heap.size + 2, 0, none⟩) (by simp) _⟩
      ·have := HG3.out
       rw [if_neg hlen] at this
       cases this
   case done =>
    rintro D ys W hD rfl ⟨hI, hB⟩ hK
    obtain ⟨acc, v, hadv, hc2, hR⟩ := hI.ex
    have hf0 := hI.f0
    have hc0 := hI.c0
    have hf1 := hI.f1
    have hc1 := hI.c1
    have hsz := hI.sz
    have ho : o = some acc := by
     have h2 := hadv []
     rw [List.append_nil, hgo] at h2
     exact Option.some.inj h2
    subst ho
    obtain ⟨m, hm, hend2⟩ := Option.bind_eq_some_iff.1 hend
    obtain ⟨A4, c4, rfl, hcap, hC⟩ := Kd.R_reads hR
    have hD2 : ∀ {X : World}, Below W.heap.size W X → X.heap[D]? = some (.deferred (some [])) := fun h => (h.block D (Array.getElem?_eq_some_iff.1 hK).1).trans hK
    cases m with
    | true =>
     rw [if_pos rfl] at hend2
     have hq := Option.some.inj hend2
     simp only [Prod.mk.injEq] at hq
     obtain ⟨rfl, rfl⟩ := hq
     gi_wp2_with (refine ⟨trivial, ?_⟩; gi_at_call 31; with_reducible refine (callsIn_wide.2 (query_May.calls k A4 c4 acc true _ hC hcap hm)).mono ?_; rintro e w1 ⟨rfl, hd⟩; replace hd : Below _ _ _ := (by first | exact hd.below | exact hd); have HI1 := am_ (hI.below hd); have hR1 := Kd.R_below hR hd; have hB1 := hB.trans (hd.mono hB.size); have hK1 := hD2 hd; have hc0 := HI1.out.c0; have hf0 := HI1.out.f0; have hc1 := HI1.out.c1; have hf1 := HI1.out.f1; have hc2 : w1.cell? ⟨w.heap.size + 2, 0, none⟩ = some (.slice A4 acc.length c4) := (hd.cell (p := ⟨w.heap.size + 2, 0, none⟩) (by show w.heap.size + 2 < _; omega)).trans hc2; clear hd)
     obtain ⟨X, hX⟩ : ∃ X, X = (w1.setCell ⟨w.heap.size, 0, none⟩ (.slice A4 acc.length c4)).setCell ⟨w.heap.size + 1, 0, none⟩ (.int .i64 0) := ⟨_, rfl⟩
     have hKX : X.heap[D]? = some (.deferred (some [])) := by rw [hX]; exact (KeepsOthers.setCell _ _ _).same D _ ((KeepsOthers.setCell _ _ _).same D _ hK1 rfl) rfl
     have hA : X.cell? ⟨w.heap.size, 0, none⟩ = some (.slice A4 acc.length c4) := by rw [hX]; exact (World.cell?_setCell_far _ ⟨w.heap.size + 1, 0, none⟩ ⟨w.heap.size, 0, none⟩ _ (by simp)).trans (World.cell?_setCell_same' w1 ⟨w.heap.size, 0, none⟩ _ (by rw [hc0]; rfl))
     have hBc : X.cell? ⟨w.heap.size + 1, 0, none⟩ = some (.int .i64 0) := by rw [hX]; exact World.cell?_setCell_same' _ ⟨w.heap.size + 1, 0, none⟩ _ (by rw [World.cell?_setCell_far w1 ⟨w.heap.size, 0, none⟩ ⟨w.heap.size + 1, 0, none⟩ _ (by simp), hc1]; rfl)
     have hBX : Below w.heap.size w X := by rw [hX]; exact (hB1.setCell (p := ⟨w.heap.size, 0, none⟩) (by simp) _).setCell (p := ⟨w.heap.size + 1, 0, none⟩) (by simp) _
     have hRX : Kd.R k51 51 X w.heap.size (fun q => w.heap.size + 6 ≤ q) (.slice A4 acc.length c4) acc := by rw [hX]; exact Kd.R_far (Kd.R_far hR1 (fun q hq => by show q ≠ w.heap.size; omega) _) (fun q hq => by show q ≠ w.heap.size + 1; omega) _
     rw [← hX]
     refine ⟨by simp, .inl ⟨_, _, rfl, run_takeDeferred hKX, ?_⟩⟩
     have hc5 := Go.cell_kept hA (grownBy_putObj' _ D (.deferred none)) (fun r e => by cases e; exact ⟨_, hKX, rfl⟩)
     have hc6 := Go.cell_kept hBc (grownBy_putObj' _ D (.deferred none)) (fun r e => by cases e; exact ⟨_, hKX, rfl⟩)
     refine ⟨.tuple #[.slice A4 acc.length c4, .int .i64 0], ?_, _, rfl, R_put_walk (Kd.R_mono hRX (fun _ _ => trivial)) hKX rfl, hBX.trans (belowK_b (w := w) (Nat.le_refl _) X D _ _ (by omega) hKX rfl rfl)⟩
     simp [results, Tryz.f79, go_sem, hc5, hc6]
    | false =>
     rw [if_neg (by decide)] at hend2
     have hq := Option.some.inj hend2
     simp only [Prod.mk.injEq] at hq
     obtain ⟨rfl, rfl⟩ := hq
     gi_wp2_with (refine ⟨trivial, ?_⟩; gi_at_call 31; with_reducible refine (callsIn_wide.2 (query_May.calls k A4 c4 acc false _ hC hcap hm)).mono ?_; rintro e w1 ⟨rfl, hd⟩; replace hd : Below _ _ _ := (by first | exact hd.below | exact hd); have HI1 := am_ (hI.below hd); have hB1 := hB.trans (hd.mono hB.size); have hK1 := hD2 hd; have hc0 := HI1.out.c0; have hf0 := HI1.out.f0; have hc1 := HI1.out.c1; have hf1 := HI1.out.f1; have hc2 : w1.cell? ⟨w.heap.size + 2, 0, none⟩ = some (.slice A4 acc.length c4) := (hd.cell (p := ⟨w.heap.size + 2, 0, none⟩) (by show w.heap.size + 2 < _; omega)).trans hc2; clear hd)
     obtain ⟨X, hX⟩ : ∃ X, X = (w1.setCell ⟨w.heap.size, 0, none⟩ (.slice none 0 0)).setCell ⟨w.heap.size + 1, 0, none⟩ (.int .i64 2) := ⟨_, rfl⟩
     have hKX : X.heap[D]? = some (.deferred (some [])) := by rw [hX]; exact (KeepsOthers.setCell _ _ _).same D _ ((KeepsOthers.setCell _ _ _).same D _ hK1 rfl) rfl
     have hA : X.cell? ⟨w.heap.size, 0, none⟩ = some (.slice none 0 0) := by rw [hX]; exact (World.cell?_setCell_far _ ⟨w.heap.size + 1, 0, none⟩ ⟨w.heap.size, 0, none⟩ _ (by simp)).trans (World.cell?_setCell_same' w1 ⟨w.heap.size, 0, none⟩ _ (by rw [hc0]; rfl))
     have hBc : X.cell? ⟨w.heap.size + 1, 0, none⟩ = some (.int .i64 2) := by rw [hX]; exact World.cell?_setCell_same' _ ⟨w.heap.size + 1, 0, none⟩ _ (by rw [World.cell?_setCell_far w1 ⟨w.heap.size, 0, none⟩ ⟨w.heap.size + 1, 0, none⟩ _ (by simp), hc1]; rfl)
     have hBX : Below w.heap.size w X := by rw [hX]; exact (hB1.setCell (p := ⟨w.heap.size, 0, none⟩) (by simp) _).setCell (p := ⟨w.heap.size + 1, 0, none⟩) (by simp) _
     rw [← hX]
     refine ⟨by simp, .inl ⟨_, _, rfl, run_takeDeferred hKX, ?_⟩⟩
     have hc5 := Go.cell_kept hA (grownBy_putObj' _ D (.deferred none)) (fun r e => by cases e; exact ⟨_, hKX, rfl⟩)
     have hc6 := Go.cell_kept hBc (grownBy_putObj' _ D (.deferred none)) (fun r e => by cases e; exact ⟨_, hKX, rfl⟩)
     refine ⟨.tuple #[.slice none 0 0, .int .i64 2], ?_, _, rfl, Kd.R_nil _ _ _ _ _, hBX.trans (belowK_b (w := w) (Nat.le_refl _) X D _ _ (by omega) hKX rfl rfl)⟩
     simp [results, Tryz.f79, go_sem, hc5, hc6]
   case stop =>
    rintro D pre W hD hpre ⟨⟨rfl, hc0, hc1⟩, hB⟩ hK
    have hq := Option.some.inj (show some (([] : List S51), (2 : Int)) = some (r1, r2) from hend)
    simp only [Prod.mk.injEq] at hq
    obtain ⟨rfl, rfl⟩ := hq
    gi_wp2
    refine ⟨by simp, .inl ⟨_, _, rfl, run_takeDeferred hK, ?_⟩⟩
    have hc5 := Go.cell_kept hc0 (grownBy_putObj' _ D (.deferred none)) (fun r e => by cases e; exact ⟨_, hK, rfl⟩)
    have hc6 := Go.cell_kept hc1 (grownBy_putObj' _ D (.deferred none)) (fun r e => by cases e; exact ⟨_, hK, rfl⟩)
    refine ⟨.tuple #[.slice none 0 0, .int .i64 2], ?_, _, rfl, Kd.R_nil _ _ _ _ _, hB.trans (belowK_b (w := w) (Nat.le_refl _) W D _ _ (by omega) hK rfl rfl)⟩
    simp [results, Tryz.f79, go_sem, hc5, hc6]
  ·rw [if_neg hl] at h; cases h
end

end Go.Proofs.YtpmllmfamjpinaaGreatDoor.P
