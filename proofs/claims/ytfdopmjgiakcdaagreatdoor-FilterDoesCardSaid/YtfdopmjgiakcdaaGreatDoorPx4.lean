-- written by wip/tool/hprint.py of this repo: the kit's print, with contracts by hand joined; Lean checks it.
import Derived.Test.YtfdopmjgiakcdaaGreatDoorPx0
namespace Go.Proofs.YtfdopmjgiakcdaaGreatDoor.P
open Go.RowKit Go.Proofs.YtfdopmjgiakcdaaGreatDoorW.PrintWords Go.Proofs.YtfdopmjgiakcdaaGreatDoorW.PrintLast Go.Proofs.YtfdopmjgiakcdaaGreatDoorW.PrintMore
attribute [local go_sem] max2_int min2_int max_two min_two max_three min_three max_four min_four   -- for this text's walks alone
set_option linter.unusedVariables false
set_option linter.unusedSimpArgs false

/-! ### tolllaw01_Few: function 22 -/
def tolllaw01_Few.f (a0 : ByteArray) : Option (ByteArray) := if (a0.size : Int) > 100 then (if 0 ≤ 100 then (if 100 ≤ (a0.size : Int) then (some (a0.extract 0 100)) else (none)) else (none)) else (some a0)
set_option maxHeartbeats 8000000 in
set_option maxRecDepth 100000 in
theorem tolllaw01_Few.calls (a0 : ByteArray) (r : ByteArray) (w : World) (h : tolllaw01_Few.f a0 = some r) :
  Calls Tryz.prog 22 #[.string a0] w fun e w' => e = .returned (.string r) ∧ Drawn0 w w' := by
 have H : (if (a0.size : Int) > 100 then (if 0 ≤ 100 then (if 100 ≤ (a0.size : Int) then (some (a0.extract 0 100)) else (none)) else (none)) else (some a0)) = some r := h;clear h;by_cases c2 : (a0.size : Int) > 100
 ·rw [if_pos c2] at H
  have pa := decide_eq_true c2;have pb : decide (100 < a0.size) = true := decide_eq_true (by omega);clear c2;by_cases c3 : 0 ≤ 100
  ·rw [if_pos c3] at H
   have pc := eq_true c3;have pd := decide_eq_true c3;clear c3;by_cases c4 : 100 ≤ (a0.size : Int)
   ·rw [if_pos c4] at H
    have pe := eq_true c4;have pf := decide_eq_true c4;clear c4;obtain rfl := Option.some.inj H;go_enter Tryz.func22, Tryz.ntmps22;go_wp2;go_ret;exact ⟨sd_, dr_⟩
   ·rw [if_neg c4] at H
    cases H
  ·rw [if_neg c3] at H
   cases H
 ·rw [if_neg c2] at H
  have pa := decide_eq_false c2;have pb : decide (100 < a0.size) = false := decide_eq_false (by omega);clear c2;obtain rfl := Option.some.inj H;go_enter Tryz.func22, Tryz.ntmps22;go_wp2;go_ret;exact ⟨sd_, dr_⟩

/-! ### tolllaw07_Few: function 9 -/
mutual
def tolllaw07_Few.l0 : Nat → List (S26) → List (S26) → Int → Option ((List (S26)))
 | 0, _, _, _ => none
 | k + 1, x0, x3, x4 => if x4 < (x0.length : Int) then (tolllaw07_Few.j1 k x0 x3 x4 (decide (x4 < 9))) else (tolllaw07_Few.j1 k x0 x3 x4 false)
def tolllaw07_Few.j1 : Nat → List (S26) → List (S26) → Int → Bool → Option ((List (S26)))
 | 0, _, _, _, _ => none
 | k + 1, x0, x3, x4, x13 => if x13 = true then (if 0 ≤ x4 then (if x4 < (x0.length : Int) then ((tolllaw01_Few.f ((rd_T26 x0 x4).f1)).bind fun t103 => ((tolllaw01_Few.f ((rd_T26 x0 x4).f2)).bind fun t104 => ((tolllaw01_Few.f ((rd_T26 x0 x4).f3)).bind fun t105 => ((tolllaw01_Few.f ((rd_T26 x0 x4).f5)).bind fun t106 => (if x3.length < 1466015503701 then (tolllaw07_Few.l0 k x0 (x3 ++ [(⟨(rd_T26 x0 x4).f0, t103, t104, t105, (rd_T26 x0 x4).f4, t106, (rd_T26 x0 x4).f6, (rd_T26 x0 x4).f7⟩ : S26)]) (wrap64 (x4 + 1))) else (none)))))) else (none)) else (none)) else (some x3)
end
def tolllaw07_Few.f (k : Nat) (l0 : List (S26)) : Option ((List (S26))) := tolllaw07_Few.l0 k l0 ([] : List (S26)) 0
theorem tolllaw07_Few.mono_l : ∀ k, (∀ y0 y1 y2, LeO (tolllaw07_Few.l0 k y0 y1 y2) (tolllaw07_Few.l0 (k + 1) y0 y1 y2)) ∧ (∀ y0 y1 y2 y3, LeO (tolllaw07_Few.j1 k y0 y1 y2 y3) (tolllaw07_Few.j1 (k + 1) y0 y1 y2 y3))
 | 0 => ⟨fun _ _ _ r h => by simp [tolllaw07_Few.l0] at h, fun _ _ _ _ r h => by simp [tolllaw07_Few.j1] at h⟩
 | k + 1 => by
  obtain ⟨ih0, ih1⟩ := tolllaw07_Few.mono_l k
  refine ⟨?_, ?_⟩
  ·intro y0 y1 y2
   unfold tolllaw07_Few.l0
   repeat' with_reducible first | apply ih0 | apply ih1 | apply LeO.refl | apply LeO.none | apply LeO.ite | refine LeO.bind ?_ fun _ => ?_
  ·intro y0 y1 y2 y3
   unfold tolllaw07_Few.j1
   repeat' with_reducible first | apply ih0 | apply ih1 | apply LeO.refl | apply LeO.none | apply LeO.ite | refine LeO.bind ?_ fun _ => ?_
theorem tolllaw07_Few.mono : ∀ a0 k, LeO (tolllaw07_Few.f k a0) (tolllaw07_Few.f (k + 1) a0) := by
 intro a0 k
 obtain ⟨ih0, ih1⟩ := tolllaw07_Few.mono_l k
 unfold tolllaw07_Few.f
 repeat' with_reducible first | apply ih0 | apply ih1 | apply LeO.refl | apply LeO.none | apply LeO.ite | refine LeO.bind ?_ fun _ => ?_
def tolllaw07_Few.T6 : Bool × List (List Nat × List Nat) := (true, [([], []), ([0], [0]), ([1], [1]), ([], []), ([3], [3]), ([4, 2], [4]), ([], []), ([6], [6]), ([7, 5], [7]), ([], []), ([9], [9]), ([10, 8], [10]), ([0, 1, 2, 3, 4, 6, 7, 9, 10], []), ([12, 2, 11, 0, 1, 2, 3, 4, 6, 7, 9, 10], [2, 12]), ([0, 1, 2, 3, 4, 5, 6, 7, 9, 10, 12, 13], []), ([14, 5, 13, 0, 1, 2, 3, 4, 5, 6, 7, 9, 10, 12, 13], [5, 14]), ([0, 1, 2, 3, 4, 5, 6, 7, 8, 9, 10, 12, 13, 14, 15], []), ([16, 8, 15, 0, 1, 2, 3, 4, 5, 6, 7, 8, 9, 10, 12, 13, 14, 15], [8, 16]), ([0, 1, 2, 3, 4, 5, 6, 7, 8, 9, 10, 11, 12, 13, 14, 15, 16, 17], []), ([18, 11, 17, 0, 1, 2, 3, 4, 5, 6, 7, 8, 9, 10, 11, 12, 13, 14, 15, 16, 17], [11, 18])])
def tolllaw07_Few.B6 : List Nat := [0, 1, 3, 0, 8, 31, 0, 64, 255, 0, 512, 2047, 1759, 8191, 16383, 32767, 65535, 131071, 262143, 524287]
theorem tolllaw07_Few.tab6 : rtab .any (opsOf Tryz.f9 6) = tolllaw07_Few.T6 := by kernel_rfl
theorem tolllaw07_Few.bits6 : waitsOk tolllaw07_Few.T6.2 tolllaw07_Few.B6 = true := by kernel_rfl
set_option maxHeartbeats 8000000 in
set_option maxRecDepth 100000 in
theorem tolllaw07_Few.calls (k : Nat) (A0 : Option Addr) (c0 : Nat) (l0 : List (S26)) (r : List (S26)) (w : World) (hr0 : Kd.C k26 w A0 l0.length l0) (hc0 : l0.length ≤ c0) (h : tolllaw07_Few.f k l0 = some r) :
  Calls Tryz.prog 9 #[.slice A0 l0.length c0] w fun e w' => ∃ v0_ : Value, e = .returned (v0_) ∧ Kd.R k26 26 w' w.heap.size (fun _ => True) v0_ r ∧ Below w.heap.size w w' := by
 have hu26 := Tryz.underlying26;have HR0 := Aside0.mk hr0;have HC0 := Aside0.mk hc0;clear hr0 hc0;have HB := am_ (Below.refl w.heap.size w);have H : (tolllaw07_Few.l0 k l0 ([] : List (S26)) 0) = some r := h;clear h;have H' := Aside0.mk H;clear H;go_enter Tryz.func9, Tryz.ntmps9;go_wp2;go_loopg [3, 4] k (fun kq v3 v4 w' => ∃ (pe : List (S26)) (pa : Int), v4 = .int .i64 pa ∧ Aside0 (tolllaw07_Few.l0 kq l0 pe pa = some r) ∧ Aside0 (kq ≤ k) ∧ Aside0 (Kd.R k26 26 w' w.heap.size (fun _ => True) v3 pe) ∧ Aside0 (Below w.heap.size w w'))
 case atStart => exact ⟨(([] : List (S26))), (0), sd_, H', ⟨Nat.le_refl _⟩, ⟨by first | exact Kd.R_nil _ _ _ _ _ | exact Kd.N_nil _ _ _ _ _ | exact Kd.V_nil _ _ _ _ _ | exact Kd.Q_nil _ _ _ _ _ | exact Kd.S_nil _ _ _ _ _⟩, ⟨bel_ HB.out⟩⟩
 case round =>
  clear H';obtain ⟨pe, pa, rfl, HA, HK1, pd, HB⟩ := hrel;cases gk with
  | zero => exact absurd HA.out (by simp [tolllaw07_Few.l0])
  | succ k1 =>
   have H := HA.out;clear HA;simp only [tolllaw07_Few.l0] at H;have HC2 := Aside0.mk H;clear H;go_upto_region 3 with (fail)
   go_cut [13] (fun pu wc => ∃ (kq : Nat) (pk : Bool), pu = .bool pk ∧ Aside0 (tolllaw07_Few.j1 kq l0 pe pa pk = some r) ∧ Aside0 (kq ≤ k1) ∧ Aside0 (Kd.R k26 26 wc w.heap.size (fun _ => True) u3 pe) ∧ Aside0 (Below w.heap.size w wc))
   case first =>
    have H := HC2.out;clear HC2;by_cases c3 : pa < (l0.length : Int)
    ·rw [if_pos c3] at H
     have pj := decide_eq_true c3;clear c3;(first | rw [pj] | rw [pv] | rw [pw] | (simp only [i64_w, i32_w]; rw [pj]) | skip);have H' := Aside0.mk H;clear H;go_wp2;go_meet
     case rel => exact ⟨_, (decide (pa < 9)), sd_, H', ⟨le1_ HK1.out⟩, ⟨R_ pd.out⟩, ⟨bel_ HB.out⟩⟩
    ·rw [if_neg c3] at H
     have pj := decide_eq_false c3;clear c3;(first | rw [pj] | rw [pv] | rw [pw] | (simp only [i64_w, i32_w]; rw [pj]) | skip);have H' := Aside0.mk H;clear H;go_wp2;go_meet
     case rel => exact ⟨_, (false), sd_, H', ⟨le1_ HK1.out⟩, ⟨R_ pd.out⟩, ⟨bel_ HB.out⟩⟩
   case rest =>
    clear HC2;obtain ⟨kq, pk, rfl, HA, HJ1, pd, HB⟩ := hcut;cases kq with
    | zero => exact absurd HA.out (by simp [tolllaw07_Few.j1])
    | succ kj1 =>
     have H := HA.out;clear HA;simp only [tolllaw07_Few.j1] at H;by_cases c4 : pk = true
     ·subst c4
      replace H := ift_ H;by_cases c5 : 0 ≤ pa
      ·rw [if_pos c5] at H
       have pB := decide_eq_true c5;clear c5;by_cases c6 : pa < (l0.length : Int)
       ·rw [if_pos c6] at H
        have pC := decide_eq_true c6;clear c6;obtain ⟨pf, A7, H⟩ := bnd_ H;obtain ⟨pg, A8, H⟩ := bnd_ H;obtain ⟨ph, A9, H⟩ := bnd_ H;obtain ⟨pi, A10, H⟩ := bnd_ H;by_cases c11 : pe.length < 1466015503701
        ·rw [if_pos c11] at H
         have px := Aside0.mk c11;clear c11;obtain ⟨pl, hy107⟩ : ∃ y_ : List (S26), y_ = (pe ++ [(⟨(rd_T26 l0 pa).f0, pf, pg, ph, (rd_T26 l0 pa).f4, pi, (rd_T26 l0 pa).f6, (rd_T26 l0 pa).f7⟩ : S26)]) := ⟨_, rfl⟩;replace H : (tolllaw07_Few.l0 kj1 l0 pl (wrap64 (pa + 1))) = some r := by first | (rw [hy107]; with_reducible exact H) | (have H2_ := (Option.bind_some _ _).symm.trans H; rw [hy107]; with_reducible exact H2_) | (have H2_ := (Option.bind_some _ _).symm.trans H; with_reducible exact H2_) | with_reducible exact H | (rw [hy107]; exact H) | exact H
         have pz := Aside0.mk hy107;clear hy107;have H' := Aside0.mk H;clear H;have p101 : 0 ≤ (pa : Int) := of_decide_eq_true as_;have q101 : pa < (l0.length : Int) := of_decide_eq_true as_;obtain ⟨pD, e101, pm, pn, po, pp, pq, pr, ps, pt⟩ := at_T26 HR0.out pa p101 q101;cases e101
         replace pm := hbc_ HB pm;replace pn := hbc_ HB pn;replace po := hbc_ HB po;replace pp := hbc_ HB pp;replace pq := hbc_ HB pq;replace pr := hbc_ HB pr;replace ps := hbc_ HB ps;replace pt := hbc_ HB pt;replace p101 := eq_true p101;replace q101 := eq_true q101;try go_wp2_with (first | ((with_reducible refine gate_dst (N := 5) rfl ?_); refine box_event ?hg (N := 5) ?hd (cs := #[.int .i64 0, .string (⟨#[]⟩ : ByteArray), .string (⟨#[]⟩ : ByteArray), .string (⟨#[]⟩ : ByteArray), .int .i64 0, .string (⟨#[]⟩ : ByteArray), .bool false, .int .i64 0]) (t := 26) ?hr ?_; (case hd => rfl); (case hg => rfl); (case hr => first | (go_simp; done) | (go_simp; rfl)); intro pc hg w12 hbox hb; replace pd := am_ (Kd.R_below (Kd.R_elderB (R_ pd.out) pc (Nat.le_of_eq hg.symm)) hb); have pb := am_ (hbox); have pE := sz_ HB hg; have pF := sz_ HB hg; replace HB := bs_ HB hb; clear hb hbox hg; obtain ⟨pG, pH, pI, pJ, pK, pL, pM, pN, pO, pP, pQ, pR, pS, pT, pU, pV⟩ := blk8 pb.out))
         have n0_ : Aside0 (Kd.R k26 26 ((((((((w12.setCell ⟨pc, 0, none⟩ (.int .i64 ((rd_T26 l0 pa).f0))).setCell ⟨pc, 1, none⟩ (.string ((rd_T26 l0 pa).f1))).setCell ⟨pc, 2, none⟩ (.string ((rd_T26 l0 pa).f2))).setCell ⟨pc, 3, none⟩ (.string ((rd_T26 l0 pa).f3))).setCell ⟨pc, 4, none⟩ (.int .i64 ((rd_T26 l0 pa).f4))).setCell ⟨pc, 5, none⟩ (.string ((rd_T26 l0 pa).f5))).setCell ⟨pc, 6, none⟩ (.bool ((rd_T26 l0 pa).f6))).setCell ⟨pc, 7, none⟩ (.int .i64 ((rd_T26 l0 pa).f7))) w.heap.size (fun k_ => k_ ≠ pc) u3 pe) := ⟨by (with_reducible repeat (first | apply Kd.R_alloc | apply Kd.R_drewN | apply Kd.R_drew)); exact Kd.R_mono (Rf_ (Kd.R_mono pd.out (fun k_ hk => (⟨hk, hk.2⟩ : _ ∧ k_ ≠ pc))) (fun _ hk => hk.2)) (fun _ hk => hk.1.2)⟩;have n1_ : Aside0 (((((((((w12.setCell ⟨pc, 0, none⟩ (.int .i64 ((rd_T26 l0 pa).f0))).setCell ⟨pc, 1, none⟩ (.string ((rd_T26 l0 pa).f1))).setCell ⟨pc, 2, none⟩ (.string ((rd_T26 l0 pa).f2))).setCell ⟨pc, 3, none⟩ (.string ((rd_T26 l0 pa).f3))).setCell ⟨pc, 4, none⟩ (.int .i64 ((rd_T26 l0 pa).f4))).setCell ⟨pc, 5, none⟩ (.string ((rd_T26 l0 pa).f5))).setCell ⟨pc, 6, none⟩ (.bool ((rd_T26 l0 pa).f6))).setCell ⟨pc, 7, none⟩ (.int .i64 ((rd_T26 l0 pa).f7))).heap[pc]? = some (.cells #[.int .i64 ((rd_T26 l0 pa).f0), .string ((rd_T26 l0 pa).f1), .string ((rd_T26 l0 pa).f2), .string ((rd_T26 l0 pa).f3), .int .i64 ((rd_T26 l0 pa).f4), .string ((rd_T26 l0 pa).f5), .bool ((rd_T26 l0 pa).f6), .int .i64 ((rd_T26 l0 pa).f7)] 26 (0, 0))) := ⟨bp_ pb.out⟩;have n2_ : Aside0 (Below w.heap.size w ((((((((w12.setCell ⟨pc, 0, none⟩ (.int .i64 ((rd_T26 l0 pa).f0))).setCell ⟨pc, 1, none⟩ (.string ((rd_T26 l0 pa).f1))).setCell ⟨pc, 2, none⟩ (.string ((rd_T26 l0 pa).f2))).setCell ⟨pc, 3, none⟩ (.string ((rd_T26 l0 pa).f3))).setCell ⟨pc, 4, none⟩ (.int .i64 ((rd_T26 l0 pa).f4))).setCell ⟨pc, 5, none⟩ (.string ((rd_T26 l0 pa).f5))).setCell ⟨pc, 6, none⟩ (.bool ((rd_T26 l0 pa).f6))).setCell ⟨pc, 7, none⟩ (.int .i64 ((rd_T26 l0 pa).f7)))) := ⟨bel_ HB.out⟩;(try clear pd);(try clear pb);(try clear HB);generalize ((((((((w12.setCell ⟨pc, 0, none⟩ (.int .i64 ((rd_T26 l0 pa).f0))).setCell ⟨pc, 1, none⟩ (.string ((rd_T26 l0 pa).f1))).setCell ⟨pc, 2, none⟩ (.string ((rd_T26 l0 pa).f2))).setCell ⟨pc, 3, none⟩ (.string ((rd_T26 l0 pa).f3))).setCell ⟨pc, 4, none⟩ (.int .i64 ((rd_T26 l0 pa).f4))).setCell ⟨pc, 5, none⟩ (.string ((rd_T26 l0 pa).f5))).setCell ⟨pc, 6, none⟩ (.bool ((rd_T26 l0 pa).f6))).setCell ⟨pc, 7, none⟩ (.int .i64 ((rd_T26 l0 pa).f7))) = w14 at n0_ n1_ n2_ ⊢;have pd := n0_;have pb := n1_;have HB := n2_;clear n0_ n1_ n2_;replace pd := am_ (Kd.R_drew pd.out);replace pb := am_ (blk_drew pb.out);replace HB := am_ (below_drew1 HB.out);refine start_ (n := 20) (S := fun w' => w'.cell? ⟨pc, 0, none⟩ = some (.int .i64 ((rd_T26 l0 pa).f0)) ∧ w'.cell? ⟨pc, 1, none⟩ = some (.string ((rd_T26 l0 pa).f1)) ∧ w'.cell? ⟨pc, 2, none⟩ = some (.string ((rd_T26 l0 pa).f2)) ∧ w'.cell? ⟨pc, 3, none⟩ = some (.string ((rd_T26 l0 pa).f3)) ∧ w'.cell? ⟨pc, 4, none⟩ = some (.int .i64 ((rd_T26 l0 pa).f4)) ∧ w'.cell? ⟨pc, 5, none⟩ = some (.string ((rd_T26 l0 pa).f5)) ∧ w'.cell? ⟨pc, 6, none⟩ = some (.bool ((rd_T26 l0 pa).f6)) ∧ w'.cell? ⟨pc, 7, none⟩ = some (.int .i64 ((rd_T26 l0 pa).f7))) (ds := [13, 15, 17, 19]) #[false, false, false, false, false, false, false, false, false, false, false, false, false, false, false, false, false, false, false, false] kr_ rfl rfl ⟨(blk_cell pb.out 0).trans rfl, (blk_cell pb.out 1).trans rfl, (blk_cell pb.out 2).trans rfl, (blk_cell pb.out 3).trans rfl, (blk_cell pb.out 4).trans rfl, (blk_cell pb.out 5).trans rfl, (blk_cell pb.out 6).trans rfl, (blk_cell pb.out 7).trans rfl⟩ (fun hHeld => ?_); refine with_tabW tolllaw07_Few.tab6 tolllaw07_Few.bits6 (fun HT_ HW_ => ?_);generalize w14.drew = w15 at pd pb HB hHeld ⊢;refine pur_ (i := 0) (N := some 20) (v := ?_) (a' := ?_) rfl rfl HT_ (fun _ _ _ h => h) (Or.inl ⟨by rfl, ?_⟩) ?_ ?_;rotate_left
         ·intro w'
          go_simp;(with_reducible rfl)
         rotate_left
         ·simp only [Act.put, sx_, s0_, s1_, i64_w, i32_w]
          rfl
         refine pur_ (i := 3) (N := some 23) (v := ?_) (a' := ?_) rfl rfl HT_ (fun _ _ _ h => h) (Or.inl ⟨by rfl, ?_⟩) ?_ ?_;rotate_left
         ·intro w'
          go_simp;(with_reducible rfl)
         rotate_left
         ·simp only [Act.put, sx_, s0_, s1_, i64_w, i32_w]
          rfl
         refine pur_ (i := 6) (N := some 26) (v := ?_) (a' := ?_) rfl rfl HT_ (fun _ _ _ h => h) (Or.inl ⟨by rfl, ?_⟩) ?_ ?_;rotate_left
         ·intro w'
          go_simp;(with_reducible rfl)
         rotate_left
         ·simp only [Act.put, sx_, s0_, s1_, i64_w, i32_w]
          rfl
         refine pur_ (i := 9) (N := some 29) (v := ?_) (a' := ?_) rfl rfl HT_ (fun _ _ _ h => h) (Or.inl ⟨by rfl, ?_⟩) ?_ ?_;rotate_left
         ·intro w'
          go_simp;(with_reducible rfl)
         rotate_left
         ·simp only [Act.put, sx_, s0_, s1_, i64_w, i32_w]
          rfl
         refine tak_ (i := 1) (N := some 21) (v := ?_) (a' := ?_) rfl rfl HT_ HW_ (fun _ _ _ h => h) (Or.inl ⟨by rfl, ?_⟩) hHeld ?_ ?_;rotate_left
         ·rintro w' ⟨s0, s1, s2, s3, s4, s5, s6, s7⟩
          go_simp;(with_reducible rfl)
         rotate_left
         ·simp only [Act.put, sx_, s0_, s1_, i64_w, i32_w]
          rfl
         refine tak_ (i := 4) (N := some 24) (v := ?_) (a' := ?_) rfl rfl HT_ HW_ (fun _ _ _ h => h) (Or.inl ⟨by rfl, ?_⟩) hHeld ?_ ?_;rotate_left
         ·rintro w' ⟨s0, s1, s2, s3, s4, s5, s6, s7⟩
          go_simp;(with_reducible rfl)
         rotate_left
         ·simp only [Act.put, sx_, s0_, s1_, i64_w, i32_w]
          rfl
         refine tak_ (i := 7) (N := some 27) (v := ?_) (a' := ?_) rfl rfl HT_ HW_ (fun _ _ _ h => h) (Or.inl ⟨by rfl, ?_⟩) hHeld ?_ ?_;rotate_left
         ·rintro w' ⟨s0, s1, s2, s3, s4, s5, s6, s7⟩
          go_simp;(with_reducible rfl)
         rotate_left
         ·simp only [Act.put, sx_, s0_, s1_, i64_w, i32_w]
          rfl
         refine tak_ (i := 10) (N := some 30) (v := ?_) (a' := ?_) rfl rfl HT_ HW_ (fun _ _ _ h => h) (Or.inl ⟨by rfl, ?_⟩) hHeld ?_ ?_;rotate_left
         ·rintro w' ⟨s0, s1, s2, s3, s4, s5, s6, s7⟩
          go_simp;(with_reducible rfl)
         rotate_left
         ·simp only [Act.put, sx_, s0_, s1_, i64_w, i32_w]
          rfl
         refine ono_ (i := 2) (N := some 22) rfl rfl HT_ (by decide) (fun K hK => ?_);refine goes_ Tryz.func22 kr_ rfl #[.string ((rd_T26 l0 pa).f1)] (by rfl) rfl rfl rl_ ?_;(with_reducible refine (tolllaw01_Few.calls ((rd_T26 l0 pa).f1) pf _ A7.out).mono ?_);rintro e w' ⟨rfl, ⟨nd, rfl⟩⟩;refine ⟨_, rfl, ?_⟩;refine hK.out _ _ ⟨(blk_cell pb.out 0).trans rfl, (blk_cell pb.out 1).trans rfl, (blk_cell pb.out 2).trans rfl, (blk_cell pb.out 3).trans rfl, (blk_cell pb.out 4).trans rfl, (blk_cell pb.out 5).trans rfl, (blk_cell pb.out 6).trans rfl, (blk_cell pb.out 7).trans rfl⟩ (fun hHeld => ?_);clear hK K;refine norm_ (a' := ?_) ?_ ?_;rotate_left
         ·show Act.put _ (some 22) _ = _
          simp only [Act.put, sx_, s0_, s1_, i64_w, i32_w];rfl
         refine pur_ (i := 12) (N := some 32) (v := ?_) (a' := ?_) rfl rfl HT_ (fun _ _ _ h => h) (Or.inl ⟨by rfl, ?_⟩) ?_ ?_;rotate_left
         ·intro w'
          go_simp;(with_reducible rfl)
         rotate_left
         ·simp only [Act.put, sx_, s0_, s1_, i64_w, i32_w]
          rfl
         refine ono_ (i := 5) (N := some 25) rfl rfl HT_ (by decide) (fun K hK => ?_);refine goes_ Tryz.func22 kr_ rfl #[.string ((rd_T26 l0 pa).f2)] (by rfl) rfl rfl rl_ ?_;(with_reducible refine (tolllaw01_Few.calls ((rd_T26 l0 pa).f2) pg _ A8.out).mono ?_);rintro e w' ⟨rfl, ⟨nd, rfl⟩⟩;refine ⟨_, rfl, ?_⟩;refine hK.out _ _ ⟨(blk_cell pb.out 0).trans rfl, (blk_cell pb.out 1).trans rfl, (blk_cell pb.out 2).trans rfl, (blk_cell pb.out 3).trans rfl, (blk_cell pb.out 4).trans rfl, (blk_cell pb.out 5).trans rfl, (blk_cell pb.out 6).trans rfl, (blk_cell pb.out 7).trans rfl⟩ (fun hHeld => ?_);clear hK K;refine norm_ (a' := ?_) ?_ ?_;rotate_left
         ·show Act.put _ (some 25) _ = _
          simp only [Act.put, sx_, s0_, s1_, i64_w, i32_w];rfl
         refine ono_ (i := 8) (N := some 28) rfl rfl HT_ (by decide) (fun K hK => ?_);refine goes_ Tryz.func22 kr_ rfl #[.string ((rd_T26 l0 pa).f3)] (by rfl) rfl rfl rl_ ?_;(with_reducible refine (tolllaw01_Few.calls ((rd_T26 l0 pa).f3) ph _ A9.out).mono ?_);rintro e w' ⟨rfl, ⟨nd, rfl⟩⟩;refine ⟨_, rfl, ?_⟩;refine hK.out _ _ ⟨(blk_cell pb.out 0).trans rfl, (blk_cell pb.out 1).trans rfl, (blk_cell pb.out 2).trans rfl, (blk_cell pb.out 3).trans rfl, (blk_cell pb.out 4).trans rfl, (blk_cell pb.out 5).trans rfl, (blk_cell pb.out 6).trans rfl, (blk_cell pb.out 7).trans rfl⟩ (fun hHeld => ?_);clear hK K;refine norm_ (a' := ?_) ?_ ?_;rotate_left
         ·show Act.put _ (some 28) _ = _
          simp only [Act.put, sx_, s0_, s1_, i64_w, i32_w];rfl
         refine ono_ (i := 11) (N := some 31) rfl rfl HT_ (by decide) (fun K hK => ?_);refine goes_ Tryz.func22 kr_ rfl #[.string ((rd_T26 l0 pa).f5)] (by rfl) rfl rfl rl_ ?_;(with_reducible refine (tolllaw01_Few.calls ((rd_T26 l0 pa).f5) pi _ A10.out).mono ?_);rintro e w' ⟨rfl, ⟨nd, rfl⟩⟩;refine ⟨_, rfl, ?_⟩;refine hK.out _ _ ⟨(blk_cell pb.out 0).trans rfl, (blk_cell pb.out 1).trans rfl, (blk_cell pb.out 2).trans rfl, (blk_cell pb.out 3).trans rfl, (blk_cell pb.out 4).trans rfl, (blk_cell pb.out 5).trans rfl, (blk_cell pb.out 6).trans rfl, (blk_cell pb.out 7).trans rfl⟩ (fun hHeld => ?_);clear hK K;refine norm_ (a' := ?_) ?_ ?_;rotate_left
         ·show Act.put _ (some 31) _ = _
          simp only [Act.put, sx_, s0_, s1_, i64_w, i32_w];rfl
         refine las_ (i := 13) (N := none) rfl rfl HT_ (by decide) (fun K hK => ?_);have hs16 : w15.cell? ⟨pc, 1, none⟩ = some (.string ((rd_T26 l0 pa).f1)) := (blk_cell pb.out 1).trans rfl;have hfs16 := blk_frozen pb.out 1;refine skip_ (w1 := ?_) (by rfl) rfl ?_ ?_;rotate_left
         ·go_simp
          rfl
         refine hK.out _ _ ?_;clear hK K;refine pur_ (i := 14) (N := some 33) (v := ?_) (a' := ?_) rfl rfl HT_ (fun _ _ _ h => h) (Or.inl ⟨by rfl, ?_⟩) ?_ ?_;rotate_left
         ·intro w'
          go_simp;(with_reducible rfl)
         rotate_left
         ·simp only [Act.put, sx_, s0_, s1_, i64_w, i32_w]
          rfl
         refine las_ (i := 15) (N := none) rfl rfl HT_ (by decide) (fun K hK => ?_);have hs17 : w15.cell? ⟨pc, 2, none⟩ = some (.string ((rd_T26 l0 pa).f2)) := (blk_cell pb.out 2).trans rfl;have hfs17 := blk_frozen pb.out 2;refine skip_ (w1 := ?_) (by rfl) rfl ?_ ?_;rotate_left
         ·go_simp
          rfl
         refine hK.out _ _ ?_;clear hK K;refine pur_ (i := 16) (N := some 34) (v := ?_) (a' := ?_) rfl rfl HT_ (fun _ _ _ h => h) (Or.inl ⟨by rfl, ?_⟩) ?_ ?_;rotate_left
         ·intro w'
          go_simp;(with_reducible rfl)
         rotate_left
         ·simp only [Act.put, sx_, s0_, s1_, i64_w, i32_w]
          rfl
         refine las_ (i := 17) (N := none) rfl rfl HT_ (by decide) (fun K hK => ?_);have hs18 : w15.cell? ⟨pc, 3, none⟩ = some (.string ((rd_T26 l0 pa).f3)) := (blk_cell pb.out 3).trans rfl;have hfs18 := blk_frozen pb.out 3;refine skip_ (w1 := ?_) (by rfl) rfl ?_ ?_;rotate_left
         ·go_simp
          rfl
         refine hK.out _ _ ?_;clear hK K;refine pur_ (i := 18) (N := some 35) (v := ?_) (a' := ?_) rfl rfl HT_ (fun _ _ _ h => h) (Or.inl ⟨by rfl, ?_⟩) ?_ ?_;rotate_left
         ·intro w'
          go_simp;(with_reducible rfl)
         rotate_left
         ·simp only [Act.put, sx_, s0_, s1_, i64_w, i32_w]
          rfl
         refine las_ (i := 19) (N := none) rfl rfl HT_ (by decide) (fun K hK => ?_);have hs19 : w15.cell? ⟨pc, 5, none⟩ = some (.string ((rd_T26 l0 pa).f5)) := (blk_cell pb.out 5).trans rfl;have hfs19 := blk_frozen pb.out 5;refine skip_ (w1 := ?_) (by rfl) rfl ?_ ?_;rotate_left
         ·go_simp
          rfl
         refine hK.out _ _ ?_;clear hK K;refine done_ (done_of HT_.out kr_) ?_;obtain ⟨pW, pX, pY, pZ, p0, p1, p2, p3, p4, p6, qa, qb, qc, qd, qe, qf⟩ := blk8 pb.out;try go_wp2_with (first | ((with_reducible refine gate_builtin (b := .append) (xs := #[.tmp 36, .tmp 38]) rfl ?_); at_builtin; refine Kd.R_append k26 (w0 := w) w.heap.size rfl (.tmp 36) (.tmp 38) 22 26 (.agg #[(.int .i64 0), (.string ⟨#[]⟩), (.string ⟨#[]⟩), (.string ⟨#[]⟩), (.int .i64 0), (.string ⟨#[]⟩), (.bool false), (.int .i64 0)]) 96 rfl Tryz.underlying22 info26 rfl (by decide) (by omega) u3 pe (⟨(rd_T26 l0 pa).f0, pf, pg, ph, (rd_T26 l0 pa).f4, pi, (rd_T26 l0 pa).f6, (rd_T26 l0 pa).f7⟩ : S26) [.int .i64 ((rd_T26 l0 pa).f0), .string pf, .string pg, .string ph, .int .i64 ((rd_T26 l0 pa).f4), .string pi, .bool ((rd_T26 l0 pa).f6), .int .i64 ((rd_T26 l0 pa).f7)] (fun k_ => k_ ≠ pc) (fun _ => False) rfl (by first | (go_simp; done) | (go_simp; rfl)) ?aP (fun _ hk => hk.elim) ?aF ?aO ?aB ?aS ?aL ?_; (case aP => exact k26_mkM _ _ _ (⟨(rd_T26 l0 pa).f0, pf, pg, ph, (rd_T26 l0 pa).f4, pi, (rd_T26 l0 pa).f6, (rd_T26 l0 pa).f7⟩ : S26)); (case aB => exact (bel_ HB.out)); (case aF => exact (fun k_ hk => Kd.freshB (g := pc) (o := .cells #[.int .i64 ((rd_T26 l0 pa).f0), .string pf, .string pg, .string ph, .int .i64 ((rd_T26 l0 pa).f4), .string pi, .bool ((rd_T26 l0 pa).f6), .int .i64 ((rd_T26 l0 pa).f7)] 26 (0, 0)) (bp_ pb.out) k_ hk)); (case aO => exact (Kd.R_mono (Rf_ (Kd.R_mono pd.out (fun k_ hk => (⟨hk, hk⟩ : _ ∧ k_ ≠ pc))) (fun _ hk => hk.2)) (fun _ hk => hk.1))); (case aS => exact (below_size (bel_ HB.out))); (case aL => have := px.out; omega); intro qg w21 ho hb hg hat; rw [← pz.out] at ho; replace pb := am_ (blk_grown (g := pc) (o := .cells #[.int .i64 ((rd_T26 l0 pa).f0), .string pf, .string pg, .string ph, .int .i64 ((rd_T26 l0 pa).f4), .string pi, .bool ((rd_T26 l0 pa).f6), .int .i64 ((rd_T26 l0 pa).f7)] 26 (0, 0)) (bp_ pb.out) hg (Kd.R_away pd.out (fun _ hk => hk))); replace HB := am_ (hb); have pA := am_ (ho); clear pd ho hb hg hat))
         go_roundg kj1
         case measure => have := HK1.out; have := HJ1.out; omega
         case rel => exact ⟨(pl), (wrap64 (pa + 1)), sd_, H', ⟨le2_ HK1.out HJ1.out⟩, ⟨by (with_reducible repeat (first | apply Kd.R_alloc | apply Kd.R_drewN | apply Kd.R_drew)); exact Kd.R_mono pA.out (fun _ hk => trivial)⟩, ⟨bel_ HB.out⟩⟩
        ·rw [if_neg c11] at H
         cases H
       ·rw [if_neg c6] at H
        cases H
      ·rw [if_neg c5] at H
       cases H
     ·replace c4 := Bool.eq_false_iff.mpr c4
      subst c4;replace H := iff_ H;obtain rfl := Option.some.inj H;go_wp2;go_ret;exact ⟨_, by first | rfl | (simp [errW_none, errW_some] <;> rfl) | (simp [*, errW_none, errW_some] <;> rfl), by (with_reducible repeat (first | apply Kd.R_alloc | apply Kd.R_drewN | apply Kd.R_drew)); exact pd.out, bel_ HB.out⟩

/-! ### stringslite_IndexByte: function 70 -/
def stringslite_IndexByte.f (a0 : ByteArray) (a1 : Int) : Option (Int) := some (firstIdx a0 a1.toNat.toUInt8)
set_option maxHeartbeats 4000000 in
theorem stringslite_IndexByte.calls (a0 : ByteArray) (a1 : Int) (r : Int) (w : World) (h : stringslite_IndexByte.f a0 a1 = some r) :
  Calls Tryz.prog 70 #[.string a0, .int .u8 a1] w fun e w' => e = .returned (.int .i64 r) ∧ Drawn0 w w' := by
 obtain rfl := Option.some.inj h;clear h;have hov : ∀ W, (callFunc 89 #[.string a0, .int .u8 a1]).run Tryz.prog W = .ok (.value (.int .i64 (firstIdx a0 a1.toNat.toUInt8))) W := fun W => by
  rw [run_callFunc_extern Tryz.func89 kr_ kr_ kr_ (e := Extern.BytealgIndexByte.indexByte) kr_, run_indexByte_string];rfl
 go_enter Tryz.func70, Tryz.ntmps70;go_wp2_with (simp only [hov]);go_ret;exact ⟨rfl, Drawn0.refl _⟩

/-! ### strings_IndexByte: function 51 -/
def strings_IndexByte.f (a0 : ByteArray) (a1 : Int) : Option (Int) := (stringslite_IndexByte.f a0 a1).bind fun t110 => (some t110)
set_option maxHeartbeats 8000000 in
set_option maxRecDepth 100000 in
theorem strings_IndexByte.calls (a0 : ByteArray) (a1 : Int) (r : Int) (w : World) (h : strings_IndexByte.f a0 a1 = some r) :
  Calls Tryz.prog 51 #[.string a0, .int .u8 a1] w fun e w' => e = .returned (.int .i64 r) ∧ Drawn0 w w' := by
 have H : ((stringslite_IndexByte.f a0 a1).bind fun pa => (some pa)) = some r := h;clear h;obtain ⟨pa, A3, H⟩ := bnd_ H;obtain rfl := Option.some.inj H;go_enter Tryz.func51, Tryz.ntmps51;go_wp2_with (first | ((with_reducible refine gate_callee (f := 70) rfl ?_); refine goesL_ (some 7) rfl rfl Tryz.func70 kr_ rfl #[.string a0, .int .u8 a1] rfl rl_ ?_; (with_reducible refine (stringslite_IndexByte.calls a0 a1 pa _ A3.out).mono ?_); rintro e w' ⟨rfl, ⟨nd, rfl⟩⟩; refine ⟨_, rfl, ?_⟩));go_ret;exact ⟨sd_, dr_⟩

/-! ### pairs_Token: function 28 -/
def pairs_Token.l0 : Nat → ByteArray → Int → Int → Option (Bool)
 | 0, _, _, _ => none
 | k + 1, x0, x6, x7 => if x7 < x6 then (if 0 ≤ x7 then (if x7 < (x0.size : Int) then (if (Go.bits .or .u8 (bt x0 x7) 32) ≥ 97 then (if (Go.bits .or .u8 (bt x0 x7) 32) ≤ 122 then (pairs_Token.l0 k x0 x6 (wrap64 (x7 + 1))) else (if (bt x0 x7) ≥ 48 then (if (bt x0 x7) ≤ 57 then (pairs_Token.l0 k x0 x6 (wrap64 (x7 + 1))) else ((strings_IndexByte.f (⟨#[33, 35, 36, 37, 38, 39, 42, 43, 45, 46, 94, 95, 96, 124, 126]⟩ : ByteArray) (bt x0 x7)).bind fun t111 => (if t111 ≥ 0 then (pairs_Token.l0 k x0 x6 (wrap64 (x7 + 1))) else (some false)))) else ((strings_IndexByte.f (⟨#[33, 35, 36, 37, 38, 39, 42, 43, 45, 46, 94, 95, 96, 124, 126]⟩ : ByteArray) (bt x0 x7)).bind fun t112 => (if t112 ≥ 0 then (pairs_Token.l0 k x0 x6 (wrap64 (x7 + 1))) else (some false))))) else (if (bt x0 x7) ≥ 48 then (if (bt x0 x7) ≤ 57 then (pairs_Token.l0 k x0 x6 (wrap64 (x7 + 1))) else ((strings_IndexByte.f (⟨#[33, 35, 36, 37, 38, 39, 42, 43, 45, 46, 94, 95, 96, 124, 126]⟩ : ByteArray) (bt x0 x7)).bind fun t113 => (if t113 ≥ 0 then (pairs_Token.l0 k x0 x6 (wrap64 (x7 + 1))) else (some false)))) else ((strings_IndexByte.f (⟨#[33, 35, 36, 37, 38, 39, 42, 43, 45, 46, 94, 95, 96, 124, 126]⟩ : ByteArray) (bt x0 x7)).bind fun t114 => (if t114 ≥ 0 then (pairs_Token.l0 k x0 x6 (wrap64 (x7 + 1))) else (some false))))) else (none)) else (none)) else (if x0.toList = ([] : List UInt8) then (some false) else (some (decide ((x0.size : Int) ≤ 40))))
def pairs_Token.f (k : Nat) (a0 : ByteArray) : Option (Bool) := pairs_Token.l0 k a0 (a0.size : Int) 0
theorem pairs_Token.mono_l : ∀ k, (∀ y0 y1 y2, LeO (pairs_Token.l0 k y0 y1 y2) (pairs_Token.l0 (k + 1) y0 y1 y2))
 | 0 => fun _ _ _ r h => by simp [pairs_Token.l0] at h
 | k + 1 => by
  have ih0 := pairs_Token.mono_l k
  ·intro y0 y1 y2
   unfold pairs_Token.l0
   repeat' with_reducible first | apply ih0 | apply LeO.refl | apply LeO.none | apply LeO.ite | refine LeO.bind ?_ fun _ => ?_
theorem pairs_Token.mono : ∀ a0 k, LeO (pairs_Token.f k a0) (pairs_Token.f (k + 1) a0) := by
 intro a0 k
 have ih0 := pairs_Token.mono_l k
 unfold pairs_Token.f
 repeat' with_reducible first | apply ih0 | apply LeO.refl | apply LeO.none | apply LeO.ite | refine LeO.bind ?_ fun _ => ?_
set_option maxHeartbeats 8000000 in
set_option maxRecDepth 100000 in
theorem pairs_Token.calls (k : Nat) (a0 : ByteArray) (r : Bool) (w : World) (h : pairs_Token.f k a0 = some r) :
  Calls Tryz.prog 28 #[.string a0] w fun e w' => e = .returned (.bool r) ∧ Drawn0 w w' := by
 have H : (pairs_Token.l0 k a0 (a0.size : Int) 0) = some r := h;clear h;have H' := Aside0.mk H;clear H;go_enter Tryz.func28, Tryz.ntmps28;go_wp2;go_loopg [7] k (fun kq v7 w' => ∃ (pa : Int), v7 = .int .i64 pa ∧ Aside0 (pairs_Token.l0 kq a0 (a0.size : Int) pa = some r) ∧ Aside0 (kq ≤ k) ∧ Drawn0 w w')
 case atStart => exact ⟨(0), sd_, H', ⟨Nat.le_refl _⟩, dr_⟩
 case round =>
  clear H';obtain ⟨pa, rfl, HA, HK1, ⟨m1, rfl⟩⟩ := hrel;cases gk with
  | zero => exact absurd HA.out (by simp [pairs_Token.l0])
  | succ k1 =>
   have H := HA.out;clear HA;simp only [pairs_Token.l0] at H;by_cases c2 : pa < (a0.size : Int)
   ·rw [if_pos c2] at H
    have pf := decide_eq_true c2;clear c2;by_cases c3 : 0 ≤ pa
    ·rw [if_pos c3] at H
     have ps := decide_eq_true c3;clear c3;by_cases c4 : pa < (a0.size : Int)
     ·rw [if_pos c4] at H
      have pt := decide_eq_true c4;clear c4;by_cases c6 : (Go.bits .or .u8 (bt a0 pa) 32) ≥ 97
      ·rw [if_pos c6] at H
       have pg := decide_eq_true c6;clear c6;by_cases c7 : (Go.bits .or .u8 (bt a0 pa) 32) ≤ 122
       ·rw [if_pos c7] at H
        have ph := decide_eq_true c7;clear c7;have H' := Aside0.mk H;clear H;have p5 : 0 ≤ (pa : Int) := of_decide_eq_true as_;have q5 : pa < (a0.size : Int) := of_decide_eq_true as_;have hx5 := bt_at a0 pa;replace p5 := eq_true p5;replace q5 := eq_true q5;go_wp2;go_roundg k1
        case measure => have := HK1.out; omega
        case rel => exact ⟨(wrap64 (pa + 1)), sd_, H', ⟨le1_ HK1.out⟩, dr_⟩
       ·rw [if_neg c7] at H
        have ph := decide_eq_false c7;clear c7;by_cases c9 : (bt a0 pa) ≥ 48
        ·rw [if_pos c9] at H
         have pi := decide_eq_true c9;clear c9;by_cases c11 : (bt a0 pa) ≤ 57
         ·rw [if_pos c11] at H
          have pj := decide_eq_true c11;clear c11;have H' := Aside0.mk H;clear H;have p5 : 0 ≤ (pa : Int) := of_decide_eq_true as_;have q5 : pa < (a0.size : Int) := of_decide_eq_true as_;have hx5 := bt_at a0 pa;replace p5 := eq_true p5;replace q5 := eq_true q5;have p8 : 0 ≤ (pa : Int) := of_decide_eq_true as_;have q8 : pa < (a0.size : Int) := of_decide_eq_true as_;have hx8 := bt_at a0 pa;replace p8 := eq_true p8;replace q8 := eq_true q8;have p10 : 0 ≤ (pa : Int) := of_decide_eq_true as_;have q10 : pa < (a0.size : Int) := of_decide_eq_true as_;have hx10 := bt_at a0 pa;replace p10 := eq_true p10;replace q10 := eq_true q10;go_wp2;go_roundg k1
          case measure => have := HK1.out; omega
          case rel => exact ⟨(wrap64 (pa + 1)), sd_, H', ⟨le1_ HK1.out⟩, dr_⟩
         ·rw [if_neg c11] at H
          have pj := decide_eq_false c11;clear c11;obtain ⟨pb, A13, H⟩ := bnd_ H;by_cases c14 : pb ≥ 0
          ·rw [if_pos c14] at H
           have pk := decide_eq_true c14;clear c14;have H' := Aside0.mk H;clear H;have p5 : 0 ≤ (pa : Int) := of_decide_eq_true as_;have q5 : pa < (a0.size : Int) := of_decide_eq_true as_;have hx5 := bt_at a0 pa;replace p5 := eq_true p5;replace q5 := eq_true q5;have p8 : 0 ≤ (pa : Int) := of_decide_eq_true as_;have q8 : pa < (a0.size : Int) := of_decide_eq_true as_;have hx8 := bt_at a0 pa;replace p8 := eq_true p8;replace q8 := eq_true q8;have p10 : 0 ≤ (pa : Int) := of_decide_eq_true as_;have q10 : pa < (a0.size : Int) := of_decide_eq_true as_;have hx10 := bt_at a0 pa;replace p10 := eq_true p10;replace q10 := eq_true q10;have p12 : 0 ≤ (pa : Int) := of_decide_eq_true as_;have q12 : pa < (a0.size : Int) := of_decide_eq_true as_;have hx12 := bt_at a0 pa;replace p12 := eq_true p12;replace q12 := eq_true q12;go_wp2_with (first | (go_at_call 51; (with_reducible refine (strings_IndexByte.calls (⟨#[33, 35, 36, 37, 38, 39, 42, 43, 45, 46, 94, 95, 96, 124, 126]⟩ : ByteArray) (bt a0 pa) pb _ A13.out).mono ?_); rintro e w' ⟨rfl, ⟨nd, rfl⟩⟩));go_roundg k1
           case measure => have := HK1.out; omega
           case rel => exact ⟨(wrap64 (pa + 1)), sd_, H', ⟨le1_ HK1.out⟩, dr_⟩
          ·rw [if_neg c14] at H
           have pk := decide_eq_false c14;clear c14;obtain rfl := Option.some.inj H;have p5 : 0 ≤ (pa : Int) := of_decide_eq_true as_;have q5 : pa < (a0.size : Int) := of_decide_eq_true as_;have hx5 := bt_at a0 pa;replace p5 := eq_true p5;replace q5 := eq_true q5;have p8 : 0 ≤ (pa : Int) := of_decide_eq_true as_;have q8 : pa < (a0.size : Int) := of_decide_eq_true as_;have hx8 := bt_at a0 pa;replace p8 := eq_true p8;replace q8 := eq_true q8;have p10 : 0 ≤ (pa : Int) := of_decide_eq_true as_;have q10 : pa < (a0.size : Int) := of_decide_eq_true as_;have hx10 := bt_at a0 pa;replace p10 := eq_true p10;replace q10 := eq_true q10;have p12 : 0 ≤ (pa : Int) := of_decide_eq_true as_;have q12 : pa < (a0.size : Int) := of_decide_eq_true as_;have hx12 := bt_at a0 pa;replace p12 := eq_true p12;replace q12 := eq_true q12;go_wp2_with (first | (go_at_call 51; (with_reducible refine (strings_IndexByte.calls (⟨#[33, 35, 36, 37, 38, 39, 42, 43, 45, 46, 94, 95, 96, 124, 126]⟩ : ByteArray) (bt a0 pa) pb _ A13.out).mono ?_); rintro e w' ⟨rfl, ⟨nd, rfl⟩⟩));go_ret;exact ⟨sd_, dr_⟩
        ·rw [if_neg c9] at H
         have pi := decide_eq_false c9;clear c9;obtain ⟨pc, A16, H⟩ := bnd_ H;by_cases c17 : pc ≥ 0
         ·rw [if_pos c17] at H
          have pl := decide_eq_true c17;clear c17;have H' := Aside0.mk H;clear H;have p5 : 0 ≤ (pa : Int) := of_decide_eq_true as_;have q5 : pa < (a0.size : Int) := of_decide_eq_true as_;have hx5 := bt_at a0 pa;replace p5 := eq_true p5;replace q5 := eq_true q5;have p8 : 0 ≤ (pa : Int) := of_decide_eq_true as_;have q8 : pa < (a0.size : Int) := of_decide_eq_true as_;have hx8 := bt_at a0 pa;replace p8 := eq_true p8;replace q8 := eq_true q8;have p15 : 0 ≤ (pa : Int) := of_decide_eq_true as_;have q15 : pa < (a0.size : Int) := of_decide_eq_true as_;have hx15 := bt_at a0 pa;replace p15 := eq_true p15;replace q15 := eq_true q15;go_wp2_with (first | (go_at_call 51; (with_reducible refine (strings_IndexByte.calls (⟨#[33, 35, 36, 37, 38, 39, 42, 43, 45, 46, 94, 95, 96, 124, 126]⟩ : ByteArray) (bt a0 pa) pc _ A16.out).mono ?_); rintro e w' ⟨rfl, ⟨nd, rfl⟩⟩));go_roundg k1
          case measure => have := HK1.out; omega
          case rel => exact ⟨(wrap64 (pa + 1)), sd_, H', ⟨le1_ HK1.out⟩, dr_⟩
         ·rw [if_neg c17] at H
          have pl := decide_eq_false c17;clear c17;obtain rfl := Option.some.inj H;have p5 : 0 ≤ (pa : Int) := of_decide_eq_true as_;have q5 : pa < (a0.size : Int) := of_decide_eq_true as_;have hx5 := bt_at a0 pa;replace p5 := eq_true p5;replace q5 := eq_true q5;have p8 : 0 ≤ (pa : Int) := of_decide_eq_true as_;have q8 : pa < (a0.size : Int) := of_decide_eq_true as_;have hx8 := bt_at a0 pa;replace p8 := eq_true p8;replace q8 := eq_true q8;have p15 : 0 ≤ (pa : Int) := of_decide_eq_true as_;have q15 : pa < (a0.size : Int) := of_decide_eq_true as_;have hx15 := bt_at a0 pa;replace p15 := eq_true p15;replace q15 := eq_true q15;go_wp2_with (first | (go_at_call 51; (with_reducible refine (strings_IndexByte.calls (⟨#[33, 35, 36, 37, 38, 39, 42, 43, 45, 46, 94, 95, 96, 124, 126]⟩ : ByteArray) (bt a0 pa) pc _ A16.out).mono ?_); rintro e w' ⟨rfl, ⟨nd, rfl⟩⟩));go_ret;exact ⟨sd_, dr_⟩
      ·rw [if_neg c6] at H
       have pg := decide_eq_false c6;clear c6;by_cases c19 : (bt a0 pa) ≥ 48
       ·rw [if_pos c19] at H
        have pm := decide_eq_true c19;clear c19;by_cases c21 : (bt a0 pa) ≤ 57
        ·rw [if_pos c21] at H
         have pn := decide_eq_true c21;clear c21;have H' := Aside0.mk H;clear H;have p5 : 0 ≤ (pa : Int) := of_decide_eq_true as_;have q5 : pa < (a0.size : Int) := of_decide_eq_true as_;have hx5 := bt_at a0 pa;replace p5 := eq_true p5;replace q5 := eq_true q5;have p18 : 0 ≤ (pa : Int) := of_decide_eq_true as_;have q18 : pa < (a0.size : Int) := of_decide_eq_true as_;have hx18 := bt_at a0 pa;replace p18 := eq_true p18;replace q18 := eq_true q18;have p20 : 0 ≤ (pa : Int) := of_decide_eq_true as_;have q20 : pa < (a0.size : Int) := of_decide_eq_true as_;have hx20 := bt_at a0 pa;replace p20 := eq_true p20;replace q20 := eq_true q20;go_wp2;go_roundg k1
         case measure => have := HK1.out; omega
         case rel => exact ⟨(wrap64 (pa + 1)), sd_, H', ⟨le1_ HK1.out⟩, dr_⟩
        ·rw [if_neg c21] at H
         have pn := decide_eq_false c21;clear c21;obtain ⟨pd, A23, H⟩ := bnd_ H;by_cases c24 : pd ≥ 0
         ·rw [if_pos c24] at H
          have po := decide_eq_true c24;clear c24;have H' := Aside0.mk H;clear H;have p5 : 0 ≤ (pa : Int) := of_decide_eq_true as_;have q5 : pa < (a0.size : Int) := of_decide_eq_true as_;have hx5 := bt_at a0 pa;replace p5 := eq_true p5;replace q5 := eq_true q5;have p18 : 0 ≤ (pa : Int) := of_decide_eq_true as_;have q18 : pa < (a0.size : Int) := of_decide_eq_true as_;have hx18 := bt_at a0 pa;replace p18 := eq_true p18;replace q18 := eq_true q18;have p20 : 0 ≤ (pa : Int) := of_decide_eq_true as_;have q20 : pa < (a0.size : Int) := of_decide_eq_true as_;have hx20 := bt_at a0 pa;replace p20 := eq_true p20;replace q20 := eq_true q20;have p22 : 0 ≤ (pa : Int) := of_decide_eq_true as_;have q22 : pa < (a0.size : Int) := of_decide_eq_true as_;have hx22 := bt_at a0 pa;replace p22 := eq_true p22;replace q22 := eq_true q22;go_wp2_with (first | (go_at_call 51; (with_reducible refine (strings_IndexByte.calls (⟨#[33, 35, 36, 37, 38, 39, 42, 43, 45, 46, 94, 95, 96, 124, 126]⟩ : ByteArray) (bt a0 pa) pd _ A23.out).mono ?_); rintro e w' ⟨rfl, ⟨nd, rfl⟩⟩));go_roundg k1
          case measure => have := HK1.out; omega
          case rel => exact ⟨(wrap64 (pa + 1)), sd_, H', ⟨le1_ HK1.out⟩, dr_⟩
         ·rw [if_neg c24] at H
          have po := decide_eq_false c24;clear c24;obtain rfl := Option.some.inj H;have p5 : 0 ≤ (pa : Int) := of_decide_eq_true as_;have q5 : pa < (a0.size : Int) := of_decide_eq_true as_;have hx5 := bt_at a0 pa;replace p5 := eq_true p5;replace q5 := eq_true q5;have p18 : 0 ≤ (pa : Int) := of_decide_eq_true as_;have q18 : pa < (a0.size : Int) := of_decide_eq_true as_;have hx18 := bt_at a0 pa;replace p18 := eq_true p18;replace q18 := eq_true q18;have p20 : 0 ≤ (pa : Int) := of_decide_eq_true as_;have q20 : pa < (a0.size : Int) := of_decide_eq_true as_;have hx20 := bt_at a0 pa;replace p20 := eq_true p20;replace q20 := eq_true q20;have p22 : 0 ≤ (pa : Int) := of_decide_eq_true as_;have q22 : pa < (a0.size : Int) := of_decide_eq_true as_;have hx22 := bt_at a0 pa;replace p22 := eq_true p22;replace q22 := eq_true q22;go_wp2_with (first | (go_at_call 51; (with_reducible refine (strings_IndexByte.calls (⟨#[33, 35, 36, 37, 38, 39, 42, 43, 45, 46, 94, 95, 96, 124, 126]⟩ : ByteArray) (bt a0 pa) pd _ A23.out).mono ?_); rintro e w' ⟨rfl, ⟨nd, rfl⟩⟩));go_ret;exact ⟨sd_, dr_⟩
       ·rw [if_neg c19] at H
        have pm := decide_eq_false c19;clear c19;obtain ⟨pe, A26, H⟩ := bnd_ H;by_cases c27 : pe ≥ 0
        ·rw [if_pos c27] at H
         have pp := decide_eq_true c27;clear c27;have H' := Aside0.mk H;clear H;have p5 : 0 ≤ (pa : Int) := of_decide_eq_true as_;have q5 : pa < (a0.size : Int) := of_decide_eq_true as_;have hx5 := bt_at a0 pa;replace p5 := eq_true p5;replace q5 := eq_true q5;have p18 : 0 ≤ (pa : Int) := of_decide_eq_true as_;have q18 : pa < (a0.size : Int) := of_decide_eq_true as_;have hx18 := bt_at a0 pa;replace p18 := eq_true p18;replace q18 := eq_true q18;have p25 : 0 ≤ (pa : Int) := of_decide_eq_true as_;have q25 : pa < (a0.size : Int) := of_decide_eq_true as_;have hx25 := bt_at a0 pa;replace p25 := eq_true p25;replace q25 := eq_true q25;go_wp2_with (first | (go_at_call 51; (with_reducible refine (strings_IndexByte.calls (⟨#[33, 35, 36, 37, 38, 39, 42, 43, 45, 46, 94, 95, 96, 124, 126]⟩ : ByteArray) (bt a0 pa) pe _ A26.out).mono ?_); rintro e w' ⟨rfl, ⟨nd, rfl⟩⟩));go_roundg k1
         case measure => have := HK1.out; omega
         case rel => exact ⟨(wrap64 (pa + 1)), sd_, H', ⟨le1_ HK1.out⟩, dr_⟩
        ·rw [if_neg c27] at H
         have pp := decide_eq_false c27;clear c27;obtain rfl := Option.some.inj H;have p5 : 0 ≤ (pa : Int) := of_decide_eq_true as_;have q5 : pa < (a0.size : Int) := of_decide_eq_true as_;have hx5 := bt_at a0 pa;replace p5 := eq_true p5;replace q5 := eq_true q5;have p18 : 0 ≤ (pa : Int) := of_decide_eq_true as_;have q18 : pa < (a0.size : Int) := of_decide_eq_true as_;have hx18 := bt_at a0 pa;replace p18 := eq_true p18;replace q18 := eq_true q18;have p25 : 0 ≤ (pa : Int) := of_decide_eq_true as_;have q25 : pa < (a0.size : Int) := of_decide_eq_true as_;have hx25 := bt_at a0 pa;replace p25 := eq_true p25;replace q25 := eq_true q25;go_wp2_with (first | (go_at_call 51; (with_reducible refine (strings_IndexByte.calls (⟨#[33, 35, 36, 37, 38, 39, 42, 43, 45, 46, 94, 95, 96, 124, 126]⟩ : ByteArray) (bt a0 pa) pe _ A26.out).mono ?_); rintro e w' ⟨rfl, ⟨nd, rfl⟩⟩));go_ret;exact ⟨sd_, dr_⟩
     ·rw [if_neg c4] at H
      cases H
    ·rw [if_neg c3] at H
     cases H
   ·rw [if_neg c2] at H
    have pf := decide_eq_false c2;clear c2;by_cases c28 : a0.toList = ([] : List UInt8)
    ·rw [if_pos c28] at H
     have pq := eqb_ c28;have pr := neb_ c28;clear c28;obtain rfl := Option.some.inj H;go_wp2;go_ret;exact ⟨sd_, dr_⟩
    ·rw [if_neg c28] at H
     have pq := eqf_ c28;have pr := nef_ c28;obtain rfl := Option.some.inj H;go_wp2;go_ret;exact ⟨sd_, dr_⟩

/-! ### strings_trimLeftByte: function 71 -/
def strings_trimLeftByte.l0 : Nat → ByteArray → Int → Option (ByteArray)
 | 0, _, _ => none
 | k + 1, x0, x1 => if (x0.size : Int) > 0 then (if 0 < (x0.size : Int) then (if (bt x0 0) = x1 then (if 1 ≤ (x0.size : Int) then (strings_trimLeftByte.l0 k (x0.extract 1 x0.size) x1) else (none)) else (some x0)) else (none)) else (some x0)
def strings_trimLeftByte.f (k : Nat) (a0 : ByteArray) (a1 : Int) : Option (ByteArray) := strings_trimLeftByte.l0 k a0 a1
theorem strings_trimLeftByte.mono_l : ∀ k, (∀ y0 y1, LeO (strings_trimLeftByte.l0 k y0 y1) (strings_trimLeftByte.l0 (k + 1) y0 y1))
 | 0 => fun _ _ r h => by simp [strings_trimLeftByte.l0] at h
 | k + 1 => by
  have ih0 := strings_trimLeftByte.mono_l k
  ·intro y0 y1
   unfold strings_trimLeftByte.l0
   repeat' with_reducible first | apply ih0 | apply LeO.refl | apply LeO.none | apply LeO.ite | refine LeO.bind ?_ fun _ => ?_
theorem strings_trimLeftByte.mono : ∀ a0 a1 k, LeO (strings_trimLeftByte.f k a0 a1) (strings_trimLeftByte.f (k + 1) a0 a1) := by
 intro a0 a1 k
 have ih0 := strings_trimLeftByte.mono_l k
 unfold strings_trimLeftByte.f
 repeat' with_reducible first | apply ih0 | apply LeO.refl | apply LeO.none | apply LeO.ite | refine LeO.bind ?_ fun _ => ?_
set_option maxHeartbeats 8000000 in
set_option maxRecDepth 100000 in
theorem strings_trimLeftByte.calls (k : Nat) (a0 : ByteArray) (a1 : Int) (r : ByteArray) (w : World) (h : strings_trimLeftByte.f k a0 a1 = some r) :
  Calls Tryz.prog 71 #[.string a0, .int .u8 a1] w fun e w' => e = .returned (.string r) ∧ Drawn0 w w' := by
 have H : (strings_trimLeftByte.l0 k a0 a1) = some r := h;clear h;have H' := Aside0.mk H;clear H;go_enter Tryz.func71, Tryz.ntmps71;go_wp2;go_loopg [0] k (fun kq v0 w' => ∃ (pa : ByteArray), v0 = .string pa ∧ Aside0 (strings_trimLeftByte.l0 kq pa a1 = some r) ∧ Aside0 (kq ≤ k) ∧ Drawn0 w w')
 case atStart => exact ⟨(a0), sd_, H', ⟨Nat.le_refl _⟩, dr_⟩
 case round =>
  clear H';obtain ⟨pa, rfl, HA, HK1, ⟨m1, rfl⟩⟩ := hrel;cases gk with
  | zero => exact absurd HA.out (by simp [strings_trimLeftByte.l0])
  | succ k1 =>
   have H := HA.out;clear HA;simp only [strings_trimLeftByte.l0] at H;by_cases c3 : (pa.size : Int) > 0
   ·rw [if_pos c3] at H
    have pb := decide_eq_true c3;have pc : decide (0 < pa.size) = true := decide_eq_true (by omega);clear c3;by_cases c4 : 0 < (pa.size : Int)
    ·rw [if_pos c4] at H
     have pg := decide_eq_true c4;have ph : decide (0 < pa.size) = true := decide_eq_true (by omega);clear c4;by_cases c6 : (bt pa 0) = a1
     ·rw [if_pos c6] at H
      have pd := eqb_ c6;have pe := neb_ c6;clear c6;by_cases c7 : 1 ≤ (pa.size : Int)
      ·rw [if_pos c7] at H
       have pi := eq_true c7;have pj := decide_eq_true c7;clear c7;have H' := Aside0.mk H;clear H;have p5 : 0 ≤ (0 : Int) := (by omega);have q5 : 0 < pa.size := (by have : (0 : Int) < (pa.size : Int) := of_decide_eq_true as_; omega);have hx5 : ∀ h : 0 < pa.size, ((pa[0]'h).toNat : Int) = bt pa 0 := bt_at pa 0;clear p5;have pf : (0 < (pa.size : Int)) = True := eq_true (of_decide_eq_true as_);replace q5 := eq_true q5;go_wp2;go_roundg k1
       case measure => have := HK1.out; omega
       case rel => exact ⟨(pa.extract 1 pa.size), sd_, H', ⟨le1_ HK1.out⟩, dr_⟩
      ·rw [if_neg c7] at H
       cases H
     ·rw [if_neg c6] at H
      have pd := eqf_ c6;have pe := nef_ c6;obtain rfl := Option.some.inj H;have p5 : 0 ≤ (0 : Int) := (by omega);have q5 : 0 < pa.size := (by have : (0 : Int) < (pa.size : Int) := of_decide_eq_true as_; omega);have hx5 : ∀ h : 0 < pa.size, ((pa[0]'h).toNat : Int) = bt pa 0 := bt_at pa 0;clear p5;have pf : (0 < (pa.size : Int)) = True := eq_true (of_decide_eq_true as_);replace q5 := eq_true q5;go_wp2;go_ret;exact ⟨sd_, dr_⟩
    ·rw [if_neg c4] at H
     cases H
   ·rw [if_neg c3] at H
    have pb := decide_eq_false c3;have pc : decide (0 < pa.size) = false := decide_eq_false (by omega);clear c3;obtain rfl := Option.some.inj H;go_wp2;go_ret;exact ⟨sd_, dr_⟩

/-! ### strings_trimRightByte: function 72 -/
def strings_trimRightByte.l0 : Nat → ByteArray → Int → Option (ByteArray)
 | 0, _, _ => none
 | k + 1, x0, x1 => if (x0.size : Int) > 0 then (if 0 ≤ (wrap64 ((x0.size : Int) - 1)) then (if (wrap64 ((x0.size : Int) - 1)) < (x0.size : Int) then (if (bt x0 (wrap64 ((x0.size : Int) - 1))) = x1 then (if (wrap64 ((x0.size : Int) - 1)) ≤ (x0.size : Int) then (strings_trimRightByte.l0 k (x0.extract 0 ((wrap64 ((x0.size : Int) - 1)) : Int).toNat) x1) else (none)) else (some x0)) else (none)) else (none)) else (some x0)
def strings_trimRightByte.f (k : Nat) (a0 : ByteArray) (a1 : Int) : Option (ByteArray) := strings_trimRightByte.l0 k a0 a1
theorem strings_trimRightByte.mono_l : ∀ k, (∀ y0 y1, LeO (strings_trimRightByte.l0 k y0 y1) (strings_trimRightByte.l0 (k + 1) y0 y1))
 | 0 => fun _ _ r h => by simp [strings_trimRightByte.l0] at h
 | k + 1 => by
  have ih0 := strings_trimRightByte.mono_l k
  ·intro y0 y1
   unfold strings_trimRightByte.l0
   repeat' with_reducible first | apply ih0 | apply LeO.refl | apply LeO.none | apply LeO.ite | refine LeO.bind ?_ fun _ => ?_
theorem strings_trimRightByte.mono : ∀ a0 a1 k, LeO (strings_trimRightByte.f k a0 a1) (strings_trimRightByte.f (k + 1) a0 a1) := by
 intro a0 a1 k
 have ih0 := strings_trimRightByte.mono_l k
 unfold strings_trimRightByte.f
 repeat' with_reducible first | apply ih0 | apply LeO.refl | apply LeO.none | apply LeO.ite | refine LeO.bind ?_ fun _ => ?_
set_option maxHeartbeats 8000000 in
set_option maxRecDepth 100000 in
theorem strings_trimRightByte.calls (k : Nat) (a0 : ByteArray) (a1 : Int) (r : ByteArray) (w : World) (h : strings_trimRightByte.f k a0 a1 = some r) :
  Calls Tryz.prog 72 #[.string a0, .int .u8 a1] w fun e w' => e = .returned (.string r) ∧ Drawn0 w w' := by
 have H : (strings_trimRightByte.l0 k a0 a1) = some r := h;clear h;have H' := Aside0.mk H;clear H;go_enter Tryz.func72, Tryz.ntmps72;go_wp2;go_loopg [0] k (fun kq v0 w' => ∃ (pa : ByteArray), v0 = .string pa ∧ Aside0 (strings_trimRightByte.l0 kq pa a1 = some r) ∧ Aside0 (kq ≤ k) ∧ Drawn0 w w')
 case atStart => exact ⟨(a0), sd_, H', ⟨Nat.le_refl _⟩, dr_⟩
 case round =>
  clear H';obtain ⟨pa, rfl, HA, HK1, ⟨m1, rfl⟩⟩ := hrel;cases gk with
  | zero => exact absurd HA.out (by simp [strings_trimRightByte.l0])
  | succ k1 =>
   have H := HA.out;clear HA;simp only [strings_trimRightByte.l0] at H;by_cases c3 : (pa.size : Int) > 0
   ·rw [if_pos c3] at H
    have pc := decide_eq_true c3;have pd : decide (0 < pa.size) = true := decide_eq_true (by omega);clear c3;obtain ⟨ji4, pb⟩ : ∃ j_ : Int, (wrap64 ((pa.size : Int) - 1)) = j_ := ⟨_, rfl⟩;replace H : (if 0 ≤ (ji4) then (if (ji4) < (pa.size : Int) then (if (bt pa (ji4)) = a1 then (if (ji4) ≤ (pa.size : Int) then (strings_trimRightByte.l0 k1 (pa.extract 0 ((ji4) : Int).toNat) a1) else (none)) else (some pa)) else (none)) else (none)) = some r := by first | (rw [pb] at H; exact H) | (simp only [pb] at H ⊢; exact H)
    have hji4w : (IntKind.i64.wrap ((pa.size : Int) - 1)) = ji4 := (i64_w _).trans pb;by_cases c5 : 0 ≤ (ji4)
    ·rw [if_pos c5] at H
     have pg := decide_eq_true c5;clear c5;by_cases c6 : (ji4) < (pa.size : Int)
     ·rw [if_pos c6] at H
      have ph := decide_eq_true c6;clear c6;by_cases c8 : (bt pa (ji4)) = a1
      ·rw [if_pos c8] at H
       have pe := eqb_ c8;have pf := neb_ c8;clear c8;have pi := eq_true (of_decide_eq_true as_ : 0 ≤ (ji4));by_cases c10 : (ji4) ≤ (pa.size : Int)
       ·rw [if_pos c10] at H
        have pj := eq_true c10;have pk := decide_eq_true c10;clear c10;have H' := Aside0.mk H;clear H;have p7 : 0 ≤ ((ji4) : Int) := of_decide_eq_true as_;have q7 : (ji4) < (pa.size : Int) := of_decide_eq_true as_;have hx7 := bt_at pa (ji4);replace p7 := eq_true p7;replace q7 := eq_true q7;go_wp2;go_roundg k1
        case measure => have := HK1.out; omega
        case rel => exact ⟨(pa.extract 0 ((ji4) : Int).toNat), (by first | rfl | (simp; done) | (simp only [← pb] <;> (first | rfl | simp)) | (simp [*]; done)), (by first | exact H' | (simp only [pb]; exact H')), ⟨le1_ HK1.out⟩, dr_⟩
       ·rw [if_neg c10] at H
        cases H
      ·rw [if_neg c8] at H
       have pe := eqf_ c8;have pf := nef_ c8;obtain rfl := Option.some.inj H;have p7 : 0 ≤ ((ji4) : Int) := of_decide_eq_true as_;have q7 : (ji4) < (pa.size : Int) := of_decide_eq_true as_;have hx7 := bt_at pa (ji4);replace p7 := eq_true p7;replace q7 := eq_true q7;go_wp2;go_ret;exact ⟨by first | rfl | (simp; done) | (simp only [← pb] <;> (first | rfl | simp)) | (simp [*]; done), dr_⟩
     ·rw [if_neg c6] at H
      cases H
    ·rw [if_neg c5] at H
     cases H
   ·rw [if_neg c3] at H
    have pc := decide_eq_false c3;have pd : decide (0 < pa.size) = false := decide_eq_false (by omega);clear c3;obtain rfl := Option.some.inj H;go_wp2;go_ret;exact ⟨sd_, dr_⟩

/-! ### strings_Trim: function 52 -/
mutual
def strings_Trim.j0 : Nat → ByteArray → ByteArray → Bool → Option (ByteArray)
 | 0, _, _, _ => none
 | k + 1, x0, x1, x12 => if x12 = true then (some x0) else (if (x1.size : Int) = 1 then (if 0 < (x1.size : Int) then (strings_Trim.j1 k x0 x1 (decide ((bt x1 0) < 128))) else (none)) else (none))
def strings_Trim.j1 : Nat → ByteArray → ByteArray → Bool → Option (ByteArray)
 | 0, _, _, _ => none
 | k + 1, x0, x1, x21 => if x21 = true then (if 0 < (x1.size : Int) then ((strings_trimRightByte.f k x0 (bt x1 0)).bind fun t116 => ((strings_trimLeftByte.f k t116 (bt x1 0)).bind fun t117 => (some t117))) else (none)) else (none)
end
def strings_Trim.f (k : Nat) (a0 : ByteArray) (a1 : ByteArray) : Option (ByteArray) := if a0.toList = ([] : List UInt8) then (strings_Trim.j0 k a0 a1 true) else (strings_Trim.j0 k a0 a1 (a1.toList == ([] : List UInt8)))
theorem strings_Trim.mono_l : ∀ k, (∀ y0 y1 y2, LeO (strings_Trim.j0 k y0 y1 y2) (strings_Trim.j0 (k + 1) y0 y1 y2)) ∧ (∀ y0 y1 y2, LeO (strings_Trim.j1 k y0 y1 y2) (strings_Trim.j1 (k + 1) y0 y1 y2))
 | 0 => ⟨fun _ _ _ r h => by simp [strings_Trim.j0] at h, fun _ _ _ r h => by simp [strings_Trim.j1] at h⟩
 | k + 1 => by
  obtain ⟨ih0, ih1⟩ := strings_Trim.mono_l k
  refine ⟨?_, ?_⟩
  ·intro y0 y1 y2
   unfold strings_Trim.j0
   repeat' with_reducible first | apply ih0 | apply ih1 | apply strings_trimLeftByte.mono | apply strings_trimRightByte.mono | apply LeO.refl | apply LeO.none | apply LeO.ite | refine LeO.bind ?_ fun _ => ?_
  ·intro y0 y1 y2
   unfold strings_Trim.j1
   repeat' with_reducible first | apply ih0 | apply ih1 | apply strings_trimLeftByte.mono | apply strings_trimRightByte.mono | apply LeO.refl | apply LeO.none | apply LeO.ite | refine LeO.bind ?_ fun _ => ?_
theorem strings_Trim.mono : ∀ a0 a1 k, LeO (strings_Trim.f k a0 a1) (strings_Trim.f (k + 1) a0 a1) := by
 intro a0 a1 k
 obtain ⟨ih0, ih1⟩ := strings_Trim.mono_l k
 unfold strings_Trim.f
 repeat' with_reducible first | apply ih0 | apply ih1 | apply strings_trimLeftByte.mono | apply strings_trimRightByte.mono | apply LeO.refl | apply LeO.none | apply LeO.ite | refine LeO.bind ?_ fun _ => ?_
set_option maxHeartbeats 8000000 in
set_option maxRecDepth 100000 in
theorem strings_Trim.calls (k : Nat) (a0 : ByteArray) (a1 : ByteArray) (r : ByteArray) (w : World) (h : strings_Trim.f k a0 a1 = some r) :
  Calls Tryz.prog 52 #[.string a0, .string a1] w fun e w' => e = .returned (.string r) ∧ Below w.heap.size w w' := by
 have HB := am_ (Below.refl w.heap.size w);have H : (if a0.toList = ([] : List UInt8) then (strings_Trim.j0 k a0 a1 true) else (strings_Trim.j0 k a0 a1 (a1.toList == ([] : List UInt8)))) = some r := h;clear h;have HC3 := Aside0.mk H;clear H;go_enter Tryz.func52, Tryz.ntmps52;go_upto_region 1 with (fail)
 repeat (go_quiet (fail); go_upto_region 1 with (fail))
 go_cut [12] (fun pi wc => ∃ (kq : Nat) (pc : Bool), pi = .bool pc ∧ Aside0 (strings_Trim.j0 kq a0 a1 pc = some r) ∧ Aside0 (kq ≤ k) ∧ Aside0 (Below w.heap.size w wc))
 case first =>
  have H := HC3.out;clear HC3;by_cases c4 : a0.toList = ([] : List UInt8)
  ·rw [if_pos c4] at H
   have pb := eqb_ c4;have pe := neb_ c4;clear c4;(first | rw [pb] | rw [pe] | rw [pj] | (simp only [i64_w, i32_w]; rw [pb]) | skip);have H' := Aside0.mk H;clear H;go_wp2;repeat (go_quiet (fail); try go_wp2)
   go_meet
   case rel => exact ⟨_, (true), sd_, H', ⟨le_⟩, ⟨bel_ HB.out⟩⟩
  ·rw [if_neg c4] at H
   have pb := eqf_ c4;have pe := nef_ c4;(first | rw [pb] | rw [pe] | rw [pj] | (simp only [i64_w, i32_w]; rw [pb]) | skip);have H' := Aside0.mk H;clear H;go_wp2;repeat (go_quiet (fail); try go_wp2)
   go_meet
   case rel => exact ⟨_, ((a1.toList == ([] : List UInt8))), sd_, H', ⟨le_⟩, ⟨bel_ HB.out⟩⟩
 case rest =>
  clear HC3;obtain ⟨kq, pc, rfl, HA, HJ2, HB⟩ := hcut;cases kq with
  | zero => exact absurd HA.out (by simp [strings_Trim.j0])
  | succ kj2 =>
   have H := HA.out;clear HA;simp only [strings_Trim.j0] at H;by_cases c5 : pc = true
   ·subst c5
    replace H := ift_ H;obtain rfl := Option.some.inj H;go_wp2;repeat (go_quiet (fail); try go_wp2)
    go_ret;exact ⟨fi_, bel_ HB.out⟩
   ·replace c5 := Bool.eq_false_iff.mpr c5
    subst c5;replace H := iff_ H;have HC6 := Aside0.mk H;clear H;go_upto_region 3 with (fail)
    repeat (go_quiet (fail); go_upto_region 3 with (fail))
    go_cut [21] (fun pk wc => ∃ (kq : Nat) (pd : Bool), pk = .bool pd ∧ Aside0 (strings_Trim.j1 kq a0 a1 pd = some r) ∧ Aside0 (kq ≤ kj2) ∧ Aside0 (Below w.heap.size w wc))
    case first =>
     have H := HC6.out;clear HC6;by_cases c7 : (a1.size : Int) = 1
     ·rw [if_pos c7] at H
      have pg := eqb_ c7;have pl := neb_ c7;clear c7;(first | rw [pg] | rw [pl] | rw [pm] | (simp only [i64_w, i32_w]; rw [pg]) | skip);by_cases c8 : 0 < (a1.size : Int)
      ·rw [if_pos c8] at H
       have pn := decide_eq_true c8;have po : decide (0 < a1.size) = true := decide_eq_true (by omega);clear c8;have H' := Aside0.mk H;clear H;have p9 : 0 ≤ (0 : Int) := (by omega);have q9 : 0 < a1.size := (by have : (0 : Int) < (a1.size : Int) := of_decide_eq_true as_; omega);have hx9 : ∀ h : 0 < a1.size, ((a1[0]'h).toNat : Int) = bt a1 0 := bt_at a1 0;clear p9;have pp : (0 < (a1.size : Int)) = True := eq_true (of_decide_eq_true as_);replace q9 := eq_true q9;go_wp2;repeat (go_quiet (fail); try go_wp2)
       go_meet
       case rel => exact ⟨_, (decide ((bt a1 0) < 128)), sd_, H', ⟨le1_ HJ2.out⟩, ⟨bel_ HB.out⟩⟩
      ·rw [if_neg c8] at H
       cases H
     ·rw [if_neg c7] at H
      cases H
    case rest =>
     clear HC6;try clear c5
     obtain ⟨kq, pd, rfl, HA, HJ5, HB⟩ := hcut;cases kq with
     | zero => exact absurd HA.out (by simp [strings_Trim.j1])
     | succ kj5 =>
      have H := HA.out;clear HA;simp only [strings_Trim.j1] at H;by_cases c10 : pd = true
      ·subst c10
       replace H := ift_ H;by_cases c11 : 0 < (a1.size : Int)
       ·rw [if_pos c11] at H
        have pq := decide_eq_true c11;have pr : decide (0 < a1.size) = true := decide_eq_true (by omega);clear c11;obtain ⟨pa, A13, H⟩ := bnd_ H;obtain ⟨pf, A15, H⟩ := bnd_ H;obtain rfl := Option.some.inj H;have p12 : 0 ≤ (0 : Int) := (by omega);have q12 : 0 < a1.size := (by have : (0 : Int) < (a1.size : Int) := of_decide_eq_true as_; omega);have hx12 : ∀ h : 0 < a1.size, ((a1[0]'h).toNat : Int) = bt a1 0 := bt_at a1 0;clear p12;have ps : (0 < (a1.size : Int)) = True := eq_true (of_decide_eq_true as_);replace q12 := eq_true q12;go_wp2_with (first | (go_at_call 72; (with_reducible refine (strings_trimRightByte.calls kj5 a0 (bt a1 0) pa _ A13.out).mono ?_); rintro e w' ⟨rfl, ⟨nd, rfl⟩⟩; (try first | exact ⟨rfl, _, World.drewN_drewN _ _ _⟩ | exact ⟨rfl, _, Eq.trans (World.drewN_drewN _ _ _) (congrArg (World.drewN _) (Nat.add_assoc _ _ _))⟩); have p14 : 0 ≤ (0 : Int) := (by omega); have q14 : 0 < a1.size := (by have : (0 : Int) < (a1.size : Int) := of_decide_eq_true as_; omega); have hx14 : ∀ h : 0 < a1.size, ((a1[0]'h).toNat : Int) = bt a1 0 := bt_at a1 0; clear p14; have ph : (0 < (a1.size : Int)) = True := eq_true (of_decide_eq_true as_); replace q14 := eq_true q14) | (go_at_call 71; (with_reducible refine (strings_trimLeftByte.calls kj5 pa (bt a1 0) pf _ A15.out).mono ?_); rintro e w' ⟨rfl, ⟨nd, rfl⟩⟩; (try first | exact ⟨rfl, _, World.drewN_drewN _ _ _⟩ | exact ⟨rfl, _, Eq.trans (World.drewN_drewN _ _ _) (congrArg (World.drewN _) (Nat.add_assoc _ _ _))⟩)));repeat (go_quiet (first | (go_at_call 72; (with_reducible refine (strings_trimRightByte.calls kj5 a0 (bt a1 0) pa _ A13.out).mono ?_); rintro e w' ⟨rfl, ⟨nd, rfl⟩⟩; (try first | exact ⟨rfl, _, World.drewN_drewN _ _ _⟩ | exact ⟨rfl, _, Eq.trans (World.drewN_drewN _ _ _) (congrArg (World.drewN _) (Nat.add_assoc _ _ _))⟩); have p14 : 0 ≤ (0 : Int) := (by omega); have q14 : 0 < a1.size := (by have : (0 : Int) < (a1.size : Int) := of_decide_eq_true as_; omega); have hx14 : ∀ h : 0 < a1.size, ((a1[0]'h).toNat : Int) = bt a1 0 := bt_at a1 0; clear p14; have ph : (0 < (a1.size : Int)) = True := eq_true (of_decide_eq_true as_); replace q14 := eq_true q14) | (go_at_call 71; (with_reducible refine (strings_trimLeftByte.calls kj5 pa (bt a1 0) pf _ A15.out).mono ?_); rintro e w' ⟨rfl, ⟨nd, rfl⟩⟩; (try first | exact ⟨rfl, _, World.drewN_drewN _ _ _⟩ | exact ⟨rfl, _, Eq.trans (World.drewN_drewN _ _ _) (congrArg (World.drewN _) (Nat.add_assoc _ _ _))⟩))); try go_wp2_with (first | (go_at_call 72; (with_reducible refine (strings_trimRightByte.calls kj5 a0 (bt a1 0) pa _ A13.out).mono ?_); rintro e w' ⟨rfl, ⟨nd, rfl⟩⟩; (try first | exact ⟨rfl, _, World.drewN_drewN _ _ _⟩ | exact ⟨rfl, _, Eq.trans (World.drewN_drewN _ _ _) (congrArg (World.drewN _) (Nat.add_assoc _ _ _))⟩); have p14 : 0 ≤ (0 : Int) := (by omega); have q14 : 0 < a1.size := (by have : (0 : Int) < (a1.size : Int) := of_decide_eq_true as_; omega); have hx14 : ∀ h : 0 < a1.size, ((a1[0]'h).toNat : Int) = bt a1 0 := bt_at a1 0; clear p14; have ph : (0 < (a1.size : Int)) = True := eq_true (of_decide_eq_true as_); replace q14 := eq_true q14) | (go_at_call 71; (with_reducible refine (strings_trimLeftByte.calls kj5 pa (bt a1 0) pf _ A15.out).mono ?_); rintro e w' ⟨rfl, ⟨nd, rfl⟩⟩; (try first | exact ⟨rfl, _, World.drewN_drewN _ _ _⟩ | exact ⟨rfl, _, Eq.trans (World.drewN_drewN _ _ _) (congrArg (World.drewN _) (Nat.add_assoc _ _ _))⟩))))
        go_ret;exact ⟨fi_, bel_ HB.out⟩
       ·rw [if_neg c11] at H
        cases H
      ·replace c10 := Bool.eq_false_iff.mpr c10
       subst c10;replace H := iff_ H;cases H

/-! ### pairs_Value: function 29 -/
def pairs_Value.l0 : Nat → ByteArray → Int → Int → Option (Bool)
 | 0, _, _, _ => none
 | k + 1, x0, x5, x6 => if x6 < x5 then (if 0 ≤ x6 then (if x6 < (x0.size : Int) then (if (bt x0 x6) < 32 then (some false) else (if (bt x0 x6) > 126 then (some false) else (pairs_Value.l0 k x0 x5 (wrap64 (x6 + 1))))) else (none)) else (none)) else (if (x0.size : Int) ≤ 40 then ((strings_Trim.f k x0 (⟨#[32]⟩ : ByteArray)).bind fun t118 => (some (t118.toList == x0.toList))) else (some false))
def pairs_Value.f (k : Nat) (a0 : ByteArray) : Option (Bool) := pairs_Value.l0 k a0 (a0.size : Int) 0
theorem pairs_Value.mono_l : ∀ k, (∀ y0 y1 y2, LeO (pairs_Value.l0 k y0 y1 y2) (pairs_Value.l0 (k + 1) y0 y1 y2))
 | 0 => fun _ _ _ r h => by simp [pairs_Value.l0] at h
 | k + 1 => by
  have ih0 := pairs_Value.mono_l k
  ·intro y0 y1 y2
   unfold pairs_Value.l0
   repeat' with_reducible first | apply ih0 | apply strings_Trim.mono | apply LeO.refl | apply LeO.none | apply LeO.ite | refine LeO.bind ?_ fun _ => ?_
theorem pairs_Value.mono : ∀ a0 k, LeO (pairs_Value.f k a0) (pairs_Value.f (k + 1) a0) := by
 intro a0 k
 have ih0 := pairs_Value.mono_l k
 unfold pairs_Value.f
 repeat' with_reducible first | apply ih0 | apply strings_Trim.mono | apply LeO.refl | apply LeO.none | apply LeO.ite | refine LeO.bind ?_ fun _ => ?_
set_option maxHeartbeats 8000000 in
set_option maxRecDepth 100000 in
theorem pairs_Value.calls (k : Nat) (a0 : ByteArray) (r : Bool) (w : World) (h : pairs_Value.f k a0 = some r) :
  Calls Tryz.prog 29 #[.string a0] w fun e w' => e = .returned (.bool r) ∧ Below w.heap.size w w' := by
 have HB := am_ (Below.refl w.heap.size w);have H : (pairs_Value.l0 k a0 (a0.size : Int) 0) = some r := h;clear h;have H' := Aside0.mk H;clear H;go_enter Tryz.func29, Tryz.ntmps29;go_wp2;go_loopg [6] k (fun kq v6 w' => ∃ (pa : Int), v6 = .int .i64 pa ∧ Aside0 (pairs_Value.l0 kq a0 (a0.size : Int) pa = some r) ∧ Aside0 (kq ≤ k) ∧ Aside0 (Below w.heap.size w w'))
 case atStart => exact ⟨(0), sd_, H', ⟨Nat.le_refl _⟩, ⟨bel_ HB.out⟩⟩
 case round =>
  clear H';obtain ⟨pa, rfl, HA, HK1, HB⟩ := hrel;cases gk with
  | zero => exact absurd HA.out (by simp [pairs_Value.l0])
  | succ k1 =>
   have H := HA.out;clear HA;simp only [pairs_Value.l0] at H;by_cases c2 : pa < (a0.size : Int)
   ·rw [if_pos c2] at H
    have pb := decide_eq_true c2;clear c2;by_cases c3 : 0 ≤ pa
    ·rw [if_pos c3] at H
     have ph := decide_eq_true c3;clear c3;by_cases c4 : pa < (a0.size : Int)
     ·rw [if_pos c4] at H
      have pi := decide_eq_true c4;clear c4;by_cases c6 : (bt a0 pa) < 32
      ·rw [if_pos c6] at H
       have pc := decide_eq_true c6;clear c6;obtain rfl := Option.some.inj H;have p5 : 0 ≤ (pa : Int) := of_decide_eq_true as_;have q5 : pa < (a0.size : Int) := of_decide_eq_true as_;have hx5 := bt_at a0 pa;replace p5 := eq_true p5;replace q5 := eq_true q5;go_wp2;go_ret;exact ⟨fi_, bel_ HB.out⟩
      ·rw [if_neg c6] at H
       have pc := decide_eq_false c6;clear c6;by_cases c8 : (bt a0 pa) > 126
       ·rw [if_pos c8] at H
        have pd := decide_eq_true c8;clear c8;obtain rfl := Option.some.inj H;have p5 : 0 ≤ (pa : Int) := of_decide_eq_true as_;have q5 : pa < (a0.size : Int) := of_decide_eq_true as_;have hx5 := bt_at a0 pa;replace p5 := eq_true p5;replace q5 := eq_true q5;have p7 : 0 ≤ (pa : Int) := of_decide_eq_true as_;have q7 : pa < (a0.size : Int) := of_decide_eq_true as_;have hx7 := bt_at a0 pa;replace p7 := eq_true p7;replace q7 := eq_true q7;go_wp2;go_ret;exact ⟨fi_, bel_ HB.out⟩
       ·rw [if_neg c8] at H
        have pd := decide_eq_false c8;clear c8;have H' := Aside0.mk H;clear H;have p5 : 0 ≤ (pa : Int) := of_decide_eq_true as_;have q5 : pa < (a0.size : Int) := of_decide_eq_true as_;have hx5 := bt_at a0 pa;replace p5 := eq_true p5;replace q5 := eq_true q5;have p7 : 0 ≤ (pa : Int) := of_decide_eq_true as_;have q7 : pa < (a0.size : Int) := of_decide_eq_true as_;have hx7 := bt_at a0 pa;replace p7 := eq_true p7;replace q7 := eq_true q7;go_wp2;go_roundg k1
        case measure => have := HK1.out; omega
        case rel => exact ⟨(wrap64 (pa + 1)), sd_, H', ⟨le1_ HK1.out⟩, ⟨bel_ HB.out⟩⟩
     ·rw [if_neg c4] at H
      cases H
    ·rw [if_neg c3] at H
     cases H
   ·rw [if_neg c2] at H
    have pb := decide_eq_false c2;clear c2;by_cases c9 : (a0.size : Int) ≤ 40
    ·rw [if_pos c9] at H
     have pe := decide_eq_true c9;have pf : decide (a0.size ≤ 40) = true := decide_eq_true (by omega);clear c9;obtain ⟨pg, A10, H⟩ := bnd_ H;obtain rfl := Option.some.inj H;go_wp2_with (first | (go_at_call 52; (with_reducible refine (strings_Trim.calls k1 a0 (⟨#[32]⟩ : ByteArray) pg _ A10.out).mono ?_); rintro e w11 ⟨rfl, hb⟩; replace HB := bs_ HB hb; (try clear hb)));go_ret;exact ⟨fi_, bel_ HB.out⟩
    ·rw [if_neg c9] at H
     have pe := decide_eq_false c9;have pf : decide (a0.size ≤ 40) = false := decide_eq_false (by omega);clear c9;obtain rfl := Option.some.inj H;go_wp2;go_ret;exact ⟨fi_, bel_ HB.out⟩

/-! ### stringslite_Index: function 127 -/
def stringslite_Index.j0 : Nat → ByteArray → ByteArray → Int → Bool → Option (Int)
 | 0, _, _, _, _ => none
 | k + 1, x0, x1, x5, x16 => if x16 = true then (some 0) else (if x5 = 1 then (if 0 < (x1.size : Int) then ((stringslite_IndexByte.f x0 (bt x1 0)).bind fun t119 => (some t119)) else (none)) else (if x5 ≥ (x0.size : Int) then (some (-1)) else (none)))
def stringslite_Index.f (k : Nat) (a0 : ByteArray) (a1 : ByteArray) : Option (Int) := if (a1.size : Int) = 0 then (stringslite_Index.j0 k a0 a1 (a1.size : Int) true) else (stringslite_Index.j0 k a0 a1 (a1.size : Int) (a1.toList == a0.toList))
theorem stringslite_Index.mono_l : ∀ k, (∀ y0 y1 y2 y3, LeO (stringslite_Index.j0 k y0 y1 y2 y3) (stringslite_Index.j0 (k + 1) y0 y1 y2 y3))
 | 0 => fun _ _ _ _ r h => by simp [stringslite_Index.j0] at h
 | k + 1 => by
  have ih0 := stringslite_Index.mono_l k
  ·intro y0 y1 y2 y3
   unfold stringslite_Index.j0
   repeat' with_reducible first | apply ih0 | apply LeO.refl | apply LeO.none | apply LeO.ite | refine LeO.bind ?_ fun _ => ?_
theorem stringslite_Index.mono : ∀ a0 a1 k, LeO (stringslite_Index.f k a0 a1) (stringslite_Index.f (k + 1) a0 a1) := by
 intro a0 a1 k
 have ih0 := stringslite_Index.mono_l k
 unfold stringslite_Index.f
 repeat' with_reducible first | apply ih0 | apply LeO.refl | apply LeO.none | apply LeO.ite | refine LeO.bind ?_ fun _ => ?_
set_option maxHeartbeats 8000000 in
set_option maxRecDepth 100000 in
theorem stringslite_Index.calls (k : Nat) (a0 : ByteArray) (a1 : ByteArray) (r : Int) (w : World) (h : stringslite_Index.f k a0 a1 = some r) :
  Calls Tryz.prog 127 #[.string a0, .string a1] w fun e w' => e = .returned (.int .i64 r) ∧ Drawn0 w w' := by
 have H : (if (a1.size : Int) = 0 then (stringslite_Index.j0 k a0 a1 (a1.size : Int) true) else (stringslite_Index.j0 k a0 a1 (a1.size : Int) (a1.toList == a0.toList))) = some r := h;clear h;have HC3 := Aside0.mk H;clear H;go_enter Tryz.func127, Tryz.ntmps127;go_upto_region 2 with (fail)
 go_cut [16] (fun pd wc => ∃ (kq : Nat) (pb : Bool), pd = .bool pb ∧ Aside0 (stringslite_Index.j0 kq a0 a1 (a1.size : Int) pb = some r) ∧ Aside0 (kq ≤ k) ∧ Drawn0 w wc)
 case first =>
  have H := HC3.out;clear HC3;by_cases c4 : (a1.size : Int) = 0
  ·rw [if_pos c4] at H
   have pa := eqb_ c4;have pc := neb_ c4;clear c4;(first | rw [pa] | rw [pc] | rw [pe] | (simp only [i64_w, i32_w]; rw [pa]) | skip);have H' := Aside0.mk H;clear H;go_wp2;go_meet
   case rel => exact ⟨_, (true), sd_, H', ⟨le_⟩, dr_⟩
  ·rw [if_neg c4] at H
   have pa := eqf_ c4;have pc := nef_ c4;(first | rw [pa] | rw [pc] | rw [pe] | (simp only [i64_w, i32_w]; rw [pa]) | skip);have H' := Aside0.mk H;clear H;go_wp2;go_meet
   case rel => exact ⟨_, ((a1.toList == a0.toList)), sd_, H', ⟨le_⟩, dr_⟩
 case rest =>
  clear HC3;obtain ⟨kq, pb, rfl, HA, HJ2, ⟨mc2, rfl⟩⟩ := hcut;cases kq with
  | zero => exact absurd HA.out (by simp [stringslite_Index.j0])
  | succ kj2 =>
   have H := HA.out;clear HA;simp only [stringslite_Index.j0] at H;by_cases c5 : pb = true
   ·subst c5
    replace H := ift_ H;obtain rfl := Option.some.inj H;go_wp2;go_ret;exact ⟨sd_, dr_⟩
   ·replace c5 := Bool.eq_false_iff.mpr c5
    subst c5;replace H := iff_ H;by_cases c6 : (a1.size : Int) = 1
    ·rw [if_pos c6] at H
     have pf := eqb_ c6;have pg := neb_ c6;clear c6;by_cases c7 : 0 < (a1.size : Int)
     ·rw [if_pos c7] at H
      have pi := decide_eq_true c7;have pj : decide (0 < a1.size) = true := decide_eq_true (by omega);clear c7;obtain ⟨ph, A9, H⟩ := bnd_ H;obtain rfl := Option.some.inj H;have p8 : 0 ≤ (0 : Int) := (by omega);have q8 : 0 < a1.size := (by have : (0 : Int) < (a1.size : Int) := of_decide_eq_true as_; omega);have hx8 : ∀ h : 0 < a1.size, ((a1[0]'h).toNat : Int) = bt a1 0 := bt_at a1 0;clear p8;have pk : (0 < (a1.size : Int)) = True := eq_true (of_decide_eq_true as_);replace q8 := eq_true q8;go_wp2_with (first | ((with_reducible refine gate_callee (f := 70) rfl ?_); refine goesL_ (some 30) rfl rfl Tryz.func70 kr_ rfl #[.string a0, .int .u8 (bt a1 0)] rfl rl_ ?_; (with_reducible refine (stringslite_IndexByte.calls a0 (bt a1 0) ph _ A9.out).mono ?_); rintro e w' ⟨rfl, ⟨nd, rfl⟩⟩; refine ⟨_, rfl, ?_⟩));go_ret;exact ⟨sd_, dr_⟩
     ·rw [if_neg c7] at H
      cases H
    ·rw [if_neg c6] at H
     have pf := eqf_ c6;have pg := nef_ c6;by_cases c10 : (a1.size : Int) ≥ (a0.size : Int)
     ·rw [if_pos c10] at H
      have pl := decide_eq_true c10;have pm : decide (a0.size ≤ a1.size) = true := decide_eq_true (Int.ofNat_le.mp c10);clear c10;obtain rfl := Option.some.inj H;go_wp2;go_ret;exact ⟨sd_, dr_⟩
     ·rw [if_neg c10] at H
      cases H

/-! ### strings_Index: function 112 -/
def strings_Index.f (k : Nat) (a0 : ByteArray) (a1 : ByteArray) : Option (Int) := (stringslite_Index.f k a0 a1).bind fun t120 => (some t120)
theorem strings_Index.mono : ∀ a0 a1 k, LeO (strings_Index.f k a0 a1) (strings_Index.f (k + 1) a0 a1) := by
 intro a0 a1 k
 unfold strings_Index.f
 repeat' with_reducible first | apply stringslite_Index.mono | apply LeO.refl | apply LeO.none | apply LeO.ite | refine LeO.bind ?_ fun _ => ?_
set_option maxHeartbeats 8000000 in
set_option maxRecDepth 100000 in
theorem strings_Index.calls (k : Nat) (a0 : ByteArray) (a1 : ByteArray) (r : Int) (w : World) (h : strings_Index.f k a0 a1 = some r) :
  Calls Tryz.prog 112 #[.string a0, .string a1] w fun e w' => e = .returned (.int .i64 r) ∧ Drawn0 w w' := by
 have H : ((stringslite_Index.f k a0 a1).bind fun pa => (some pa)) = some r := h;clear h;obtain ⟨pa, A3, H⟩ := bnd_ H;obtain rfl := Option.some.inj H;go_enter Tryz.func112, Tryz.ntmps112;go_wp2_with (first | ((with_reducible refine gate_callee (f := 127) rfl ?_); refine goesL_ (some 7) rfl rfl Tryz.func127 kr_ rfl #[.string a0, .string a1] rfl rl_ ?_; (with_reducible refine (stringslite_Index.calls k a0 a1 pa _ A3.out).mono ?_); rintro e w' ⟨rfl, ⟨nd, rfl⟩⟩; refine ⟨_, rfl, ?_⟩));go_ret;exact ⟨sd_, dr_⟩

end Go.Proofs.YtfdopmjgiakcdaaGreatDoor.P
