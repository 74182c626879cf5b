-- written by wip/tool/hprint.py of this repo: the kit's print, with contracts by hand joined; Lean checks it.
import Derived.Test.YtfdopmjgiakcdaaGreatDoorPx0
import Derived.Test.YtfdopmjgiakcdaaGreatDoorPx4
namespace Go.Proofs.YtfdopmjgiakcdaaGreatDoor.P
open Go.RowKit Go.Proofs.YtfdopmjgiakcdaaGreatDoorW.PrintWords Go.Proofs.YtfdopmjgiakcdaaGreatDoorW.PrintLast Go.Proofs.YtfdopmjgiakcdaaGreatDoorW.PrintMore
attribute [local go_sem] max2_int min2_int max_two min_two max_three min_three max_four min_four   -- for this text's walks alone
set_option linter.unusedVariables false
set_option linter.unusedSimpArgs false

/-! ### tolllaw05_Few: function 38 -/
mutual
def tolllaw05_Few.l0 : Nat → List (S59) → List (S59) → Int → Option ((List (S59)))
 | 0, _, _, _ => none
 | k + 1, x0, x3, x4 => if x4 < (x0.length : Int) then (tolllaw05_Few.j1 k x0 x3 x4 (decide (x4 < 31))) else (tolllaw05_Few.j1 k x0 x3 x4 false)
def tolllaw05_Few.j1 : Nat → List (S59) → List (S59) → Int → Bool → Option ((List (S59)))
 | 0, _, _, _, _ => none
 | k + 1, x0, x3, x4, x12 => if x12 = true then (if 0 ≤ x4 then (if x4 < (x0.length : Int) then ((tolllaw01_Few.f ((rd_T59 x0 x4).f0)).bind fun t271 => ((tolllaw01_Few.f ((rd_T59 x0 x4).f1)).bind fun t273 => (if x3.length < 4398046511104 then (tolllaw05_Few.l0 k x0 (x3 ++ [(⟨t271, t273⟩ : S59)]) (wrap64 (x4 + 1))) else (none)))) else (none)) else (none)) else (some x3)
end
def tolllaw05_Few.f (k : Nat) (l0 : List (S59)) : Option ((List (S59))) := tolllaw05_Few.l0 k l0 ([] : List (S59)) 0
theorem tolllaw05_Few.mono_l : ∀ k, (∀ y0 y1 y2, LeO (tolllaw05_Few.l0 k y0 y1 y2) (tolllaw05_Few.l0 (k + 1) y0 y1 y2)) ∧ (∀ y0 y1 y2 y3, LeO (tolllaw05_Few.j1 k y0 y1 y2 y3) (tolllaw05_Few.j1 (k + 1) y0 y1 y2 y3))
 | 0 => ⟨fun _ _ _ r h => by simp [tolllaw05_Few.l0] at h, fun _ _ _ _ r h => by simp [tolllaw05_Few.j1] at h⟩
 | k + 1 => by
  obtain ⟨ih0, ih1⟩ := tolllaw05_Few.mono_l k
  refine ⟨?_, ?_⟩
  ·intro y0 y1 y2
   unfold tolllaw05_Few.l0
   repeat' with_reducible first | apply ih0 | apply ih1 | apply LeO.refl | apply LeO.none | apply LeO.ite | refine LeO.bind ?_ fun _ => ?_
  ·intro y0 y1 y2 y3
   unfold tolllaw05_Few.j1
   repeat' with_reducible first | apply ih0 | apply ih1 | apply LeO.refl | apply LeO.none | apply LeO.ite | refine LeO.bind ?_ fun _ => ?_
theorem tolllaw05_Few.mono : ∀ a0 k, LeO (tolllaw05_Few.f k a0) (tolllaw05_Few.f (k + 1) a0) := by
 intro a0 k
 obtain ⟨ih0, ih1⟩ := tolllaw05_Few.mono_l k
 unfold tolllaw05_Few.f
 repeat' with_reducible first | apply ih0 | apply ih1 | apply LeO.refl | apply LeO.none | apply LeO.ite | refine LeO.bind ?_ fun _ => ?_
def tolllaw05_Few.T5 : Bool × List (List Nat × List Nat) := (true, [([], []), ([], []), ([], []), ([1, 2], [1, 2]), ([3], [3]), ([4], [4]), ([5], [5]), ([], []), ([], []), ([7, 8], [7, 8]), ([9], [9]), ([10], [10]), ([11, 6], [11]), ([6, 12], [6, 12]), ([13], [13]), ([0, 14, 12], [0, 14]), ([15, 15, 0, 1, 2, 3, 4, 5, 6, 7, 8, 9, 10, 11, 12, 13, 14, 15], [0, 15])])
def tolllaw05_Few.B5 : List Nat := [0, 0, 0, 6, 14, 30, 62, 0, 0, 384, 896, 1920, 4094, 8190, 16382, 32767, 65535]
theorem tolllaw05_Few.tab5 : rtab .any (opsOf Tryz.f38 5) = tolllaw05_Few.T5 := by kernel_rfl
theorem tolllaw05_Few.bits5 : waitsOk tolllaw05_Few.T5.2 tolllaw05_Few.B5 = true := by kernel_rfl
set_option maxHeartbeats 8000000 in
set_option maxRecDepth 100000 in
theorem tolllaw05_Few.calls (k : Nat) (A0 : Option Addr) (c0 : Nat) (l0 : List (S59)) (r : List (S59)) (w : World) (hr0 : Kd.C k59 w A0 l0.length l0) (hc0 : l0.length ≤ c0) (h : tolllaw05_Few.f k l0 = some r) :
  Calls Tryz.prog 38 #[.slice A0 l0.length c0] w fun e w' => ∃ v0_ : Value, e = .returned (v0_) ∧ Kd.R k59 59 w' w.heap.size (fun _ => True) v0_ r ∧ Below w.heap.size w w' := by
 have hu59 := Tryz.underlying59;have HR0 := Aside0.mk hr0;have HC0 := Aside0.mk hc0;clear hr0 hc0;have HB := am_ (Below.refl w.heap.size w);have H : (tolllaw05_Few.l0 k l0 ([] : List (S59)) 0) = some r := h;clear h;have H' := Aside0.mk H;clear H;go_enter Tryz.func38, Tryz.ntmps38;go_wp2;go_loopg [3, 4] k (fun kq v3 v4 w' => ∃ (pg : List (S59)) (pa : Int), v4 = .int .i64 pa ∧ Aside0 (tolllaw05_Few.l0 kq l0 pg pa = some r) ∧ Aside0 (kq ≤ k) ∧ Aside0 (Kd.R k59 59 w' w.heap.size (fun _ => True) v3 pg) ∧ Aside0 (Below w.heap.size w w'))
 case atStart => exact ⟨(([] : List (S59))), (0), sd_, H', ⟨Nat.le_refl _⟩, ⟨by first | exact Kd.R_nil _ _ _ _ _ | exact Kd.N_nil _ _ _ _ _ | exact Kd.V_nil _ _ _ _ _ | exact Kd.Q_nil _ _ _ _ _ | exact Kd.S_nil _ _ _ _ _⟩, ⟨bel_ HB.out⟩⟩
 case round =>
  clear H';obtain ⟨pg, pa, rfl, HA, HK1, pf, HB⟩ := hrel;cases gk with
  | zero => exact absurd HA.out (by simp [tolllaw05_Few.l0])
  | succ k1 =>
   have H := HA.out;clear HA;simp only [tolllaw05_Few.l0] at H;have HC2 := Aside0.mk H;clear H;go_upto_region 3 with (fail)
   go_cut [12] (fun pr wc => ∃ (kq : Nat) (pl : Bool), pr = .bool pl ∧ Aside0 (tolllaw05_Few.j1 kq l0 pg pa pl = some r) ∧ Aside0 (kq ≤ k1) ∧ Aside0 (Kd.R k59 59 wc w.heap.size (fun _ => True) u3 pg) ∧ Aside0 (Below w.heap.size w wc))
   case first =>
    have H := HC2.out;clear HC2;by_cases c3 : pa < (l0.length : Int)
    ·rw [if_pos c3] at H
     have pi := decide_eq_true c3;clear c3;(first | rw [pi] | rw [ps] | rw [pt] | (simp only [i64_w, i32_w]; rw [pi]) | skip);have H' := Aside0.mk H;clear H;go_wp2;go_meet
     case rel => exact ⟨_, (decide (pa < 31)), sd_, H', ⟨le1_ HK1.out⟩, ⟨R_ pf.out⟩, ⟨bel_ HB.out⟩⟩
    ·rw [if_neg c3] at H
     have pi := decide_eq_false c3;clear c3;(first | rw [pi] | rw [ps] | rw [pt] | (simp only [i64_w, i32_w]; rw [pi]) | skip);have H' := Aside0.mk H;clear H;go_wp2;go_meet
     case rel => exact ⟨_, (false), sd_, H', ⟨le1_ HK1.out⟩, ⟨R_ pf.out⟩, ⟨bel_ HB.out⟩⟩
   case rest =>
    clear HC2;obtain ⟨kq, pl, rfl, HA, HJ1, pf, HB⟩ := hcut;cases kq with
    | zero => exact absurd HA.out (by simp [tolllaw05_Few.j1])
    | succ kj1 =>
     have H := HA.out;clear HA;simp only [tolllaw05_Few.j1] at H;by_cases c4 : pl = true
     ·subst c4
      replace H := ift_ H;by_cases c5 : 0 ≤ pa
      ·rw [if_pos c5] at H
       have pz := decide_eq_true c5;clear c5;by_cases c6 : pa < (l0.length : Int)
       ·rw [if_pos c6] at H
        have pA := decide_eq_true c6;clear c6;obtain ⟨pj, A7, H⟩ := bnd_ H;obtain ⟨pk, A8, H⟩ := bnd_ H;by_cases c9 : pg.length < 4398046511104
        ·rw [if_pos c9] at H
         have pu := Aside0.mk c9;clear c9;obtain ⟨pq, hy274⟩ : ∃ y_ : List (S59), y_ = (pg ++ [(⟨pj, pk⟩ : S59)]) := ⟨_, rfl⟩;replace H : (tolllaw05_Few.l0 kj1 l0 pq (wrap64 (pa + 1))) = some r := by first | (rw [hy274]; with_reducible exact H) | (have H2_ := (Option.bind_some _ _).symm.trans H; rw [hy274]; with_reducible exact H2_) | (have H2_ := (Option.bind_some _ _).symm.trans H; with_reducible exact H2_) | with_reducible exact H | (rw [hy274]; exact H) | exact H
         have pv := Aside0.mk hy274;clear hy274;have H' := Aside0.mk H;clear H;try go_wp2
         replace pf := am_ (Kd.R_drew pf.out);replace HB := am_ (below_drew1 HB.out);have p270 : 0 ≤ (pa : Int) := of_decide_eq_true as_;have q270 : pa < (l0.length : Int) := of_decide_eq_true as_;obtain ⟨ph, e270, pm, pn⟩ := at_T59 HR0.out pa p270 q270;have pb := pn;have pc := pm;cases e270
         replace pm := hbc_ HB pm;replace pn := hbc_ HB pn;replace p270 := eq_true p270;replace q270 := eq_true q270;have p272 : 0 ≤ (pa : Int) := of_decide_eq_true as_;have q272 : pa < (l0.length : Int) := of_decide_eq_true as_;obtain ⟨pw, e272, po, pp⟩ := at_T59 HR0.out pa p272 q272;have pd := pp;have pe := po;obtain rfl : ph = pw := (by injection e272);replace po := hbc_ HB po;replace pp := hbc_ HB pp;replace p272 := eq_true p272;replace q272 := eq_true q272;refine start_ (n := 17) (S := fun w' => w'.cell? (ph.add ((pa).toNat * 2)) = some (.string ((rd_T59 l0 pa).f0)) ∧ w'.cell? ⟨(ph.add ((pa).toNat * 2)).block, (ph.add ((pa).toNat * 2)).off + 1, none⟩ = some (.string ((rd_T59 l0 pa).f1)) ∧ w'.cell? (ph.add ((pa).toNat * 2)) = some (.string ((rd_T59 l0 pa).f0)) ∧ w'.cell? ⟨(ph.add ((pa).toNat * 2)).block, (ph.add ((pa).toNat * 2)).off + 1, none⟩ = some (.string ((rd_T59 l0 pa).f1))) (ds := []) #[false, false, false, false, false, false, false, false, false, false, false, false, false, false, false, false, false] kr_ rfl rfl ⟨((HB.out.cell (World.block_lt_of_cell? w _ pc)).trans pc), ((HB.out.cell (World.block_lt_of_cell? w _ pb)).trans pb), ((HB.out.cell (World.block_lt_of_cell? w _ pe)).trans pe), ((HB.out.cell (World.block_lt_of_cell? w _ pd)).trans pd)⟩ (fun hHeld => ?_); refine with_tabW tolllaw05_Few.tab5 tolllaw05_Few.bits5 (fun HT_ HW_ => ?_);generalize wc.drew = w10 at pf HB pm pn po pp hHeld ⊢;refine pur_ (i := 0) (N := some 15) (v := ?_) (a' := ?_) rfl rfl HT_ (fun _ _ _ h => h) (Or.inl ⟨by rfl, ?_⟩) ?_ ?_;rotate_left
         ·intro w'
          go_simp;(with_reducible rfl)
         rotate_left
         ·simp only [Act.put, sx_, s0_, s1_, i64_w, i32_w]
          rfl
         refine pur_ (i := 1) (N := some 16) (v := ?_) (a' := ?_) rfl rfl HT_ (fun _ _ _ h => h) (Or.inl ⟨by rfl, ?_⟩) ?_ ?_;rotate_left
         ·intro w'
          go_simp;(with_reducible rfl)
         rotate_left
         ·simp only [Act.put, sx_, s0_, s1_, i64_w, i32_w]
          rfl
         refine pur_ (i := 2) (N := some 17) (v := ?_) (a' := ?_) rfl rfl HT_ (fun _ _ _ h => h) (Or.inl ⟨by rfl, ?_⟩) ?_ ?_;rotate_left
         ·intro w'
          go_simp;(with_reducible rfl)
         rotate_left
         ·simp only [Act.put, sx_, s0_, s1_, i64_w, i32_w]
          rfl
         refine pur_ (i := 3) (N := some 18) (v := ?_) (a' := ?_) rfl rfl HT_ (fun _ _ _ h => h) (Or.inl ⟨by rfl, ?_⟩) ?_ ?_;rotate_left
         ·intro w'
          go_simp;(with_reducible rfl)
         rotate_left
         ·simp only [Act.put, sx_, s0_, s1_, i64_w, i32_w]
          rfl
         refine pur_ (i := 4) (N := some 19) (v := ?_) (a' := ?_) rfl rfl HT_ (fun _ _ _ h => h) (Or.inl ⟨by rfl, ?_⟩) ?_ ?_;rotate_left
         ·intro w'
          go_simp;(with_reducible rfl)
         rotate_left
         ·simp only [Act.put, sx_, s0_, s1_, i64_w, i32_w]
          rfl
         refine pur_ (i := 7) (N := some 22) (v := ?_) (a' := ?_) rfl rfl HT_ (fun _ _ _ h => h) (Or.inl ⟨by rfl, ?_⟩) ?_ ?_;rotate_left
         ·intro w'
          go_simp;(with_reducible rfl)
         rotate_left
         ·simp only [Act.put, sx_, s0_, s1_, i64_w, i32_w]
          rfl
         refine pur_ (i := 8) (N := some 23) (v := ?_) (a' := ?_) rfl rfl HT_ (fun _ _ _ h => h) (Or.inl ⟨by rfl, ?_⟩) ?_ ?_;rotate_left
         ·intro w'
          go_simp;(with_reducible rfl)
         rotate_left
         ·simp only [Act.put, sx_, s0_, s1_, i64_w, i32_w]
          rfl
         refine pur_ (i := 9) (N := some 24) (v := ?_) (a' := ?_) rfl rfl HT_ (fun _ _ _ h => h) (Or.inl ⟨by rfl, ?_⟩) ?_ ?_;rotate_left
         ·intro w'
          go_simp;(with_reducible rfl)
         rotate_left
         ·simp only [Act.put, sx_, s0_, s1_, i64_w, i32_w]
          rfl
         refine pur_ (i := 10) (N := some 25) (v := ?_) (a' := ?_) rfl rfl HT_ (fun _ _ _ h => h) (Or.inl ⟨by rfl, ?_⟩) ?_ ?_;rotate_left
         ·intro w'
          go_simp;(with_reducible rfl)
         rotate_left
         ·simp only [Act.put, sx_, s0_, s1_, i64_w, i32_w]
          rfl
         refine tak_ (i := 5) (N := some 20) (v := ?_) (a' := ?_) rfl rfl HT_ HW_ (fun _ _ _ h => h) (Or.inl ⟨by rfl, ?_⟩) hHeld ?_ ?_;rotate_left
         ·rintro w' ⟨s0, s1, s2, s3⟩
          go_simp;(with_reducible rfl)
         rotate_left
         ·simp only [Act.put, sx_, s0_, s1_, i64_w, i32_w]
          rfl
         refine tak_ (i := 11) (N := some 26) (v := ?_) (a' := ?_) rfl rfl HT_ HW_ (fun _ _ _ h => h) (Or.inl ⟨by rfl, ?_⟩) hHeld ?_ ?_;rotate_left
         ·rintro w' ⟨s0, s1, s2, s3⟩
          go_simp;(with_reducible rfl)
         rotate_left
         ·simp only [Act.put, sx_, s0_, s1_, i64_w, i32_w]
          rfl
         refine ono_ (i := 6) (N := some 21) rfl rfl HT_ (by decide) (fun K hK => ?_);refine goes_ Tryz.func22 kr_ rfl #[.string ((rd_T59 l0 pa).f0)] (by rfl) rfl rfl rl_ ?_;(with_reducible refine (tolllaw01_Few.calls ((rd_T59 l0 pa).f0) pj _ A7.out).mono ?_);rintro e w' ⟨rfl, ⟨nd, rfl⟩⟩;refine ⟨_, rfl, ?_⟩;refine hK.out _ _ ⟨((HB.out.cell (World.block_lt_of_cell? w _ pc)).trans pc), ((HB.out.cell (World.block_lt_of_cell? w _ pb)).trans pb), ((HB.out.cell (World.block_lt_of_cell? w _ pe)).trans pe), ((HB.out.cell (World.block_lt_of_cell? w _ pd)).trans pd)⟩ (fun hHeld => ?_);clear hK K;refine norm_ (a' := ?_) ?_ ?_;rotate_left
         ·show Act.put _ (some 21) _ = _
          simp only [Act.put, sx_, s0_, s1_, i64_w, i32_w];rfl
         refine ono_ (i := 12) (N := some 27) rfl rfl HT_ (by decide) (fun K hK => ?_);refine goes_ Tryz.func22 kr_ rfl #[.string ((rd_T59 l0 pa).f1)] (by rfl) rfl rfl rl_ ?_;(with_reducible refine (tolllaw01_Few.calls ((rd_T59 l0 pa).f1) pk _ A8.out).mono ?_);rintro e w' ⟨rfl, ⟨nd, rfl⟩⟩;refine ⟨_, rfl, ?_⟩;refine hK.out _ _ ⟨((HB.out.cell (World.block_lt_of_cell? w _ pc)).trans pc), ((HB.out.cell (World.block_lt_of_cell? w _ pb)).trans pb), ((HB.out.cell (World.block_lt_of_cell? w _ pe)).trans pe), ((HB.out.cell (World.block_lt_of_cell? w _ pd)).trans pd)⟩ (fun hHeld => ?_);clear hK K;refine norm_ (a' := ?_) ?_ ?_;rotate_left
         ·show Act.put _ (some 27) _ = _
          simp only [Act.put, sx_, s0_, s1_, i64_w, i32_w];rfl
         refine pur_ (i := 13) (N := some 28) (v := ?_) (a' := ?_) rfl rfl HT_ (fun _ _ _ h => h) (Or.inl ⟨by rfl, ?_⟩) ?_ ?_;rotate_left
         ·intro w'
          go_simp;(with_reducible rfl)
         rotate_left
         ·simp only [Act.put, sx_, s0_, s1_, i64_w, i32_w]
          rfl
         refine ono_ (i := 14) (N := some 29) rfl rfl HT_ (by decide) (fun K hK => ?_);refine value_ (w1 := ?_) (v := ?_) (by rfl) rfl ?_ ?_;rotate_left 2
         ·go_simp
          constructor
          ·rfl
          ·rfl
         refine hK.out _ _ ⟨(World.cell?_alloc_lt _ _ _ (World.block_lt_of_cell? _ _ (((HB.out.cell (World.block_lt_of_cell? w _ pc)).trans pc)))).trans (((HB.out.cell (World.block_lt_of_cell? w _ pc)).trans pc)), (World.cell?_alloc_lt _ _ _ (World.block_lt_of_cell? _ _ (((HB.out.cell (World.block_lt_of_cell? w _ pb)).trans pb)))).trans (((HB.out.cell (World.block_lt_of_cell? w _ pb)).trans pb)), (World.cell?_alloc_lt _ _ _ (World.block_lt_of_cell? _ _ (((HB.out.cell (World.block_lt_of_cell? w _ pe)).trans pe)))).trans (((HB.out.cell (World.block_lt_of_cell? w _ pe)).trans pe)), (World.cell?_alloc_lt _ _ _ (World.block_lt_of_cell? _ _ (((HB.out.cell (World.block_lt_of_cell? w _ pd)).trans pd)))).trans (((HB.out.cell (World.block_lt_of_cell? w _ pd)).trans pd))⟩ (fun hHeld => ?_);clear hK K;refine norm_ (a' := ?_) ?_ ?_;rotate_left
         ·show Act.put _ (some 29) _ = _
          simp only [Act.put, sx_, s0_, s1_, i64_w, i32_w];rfl
         refine ono_ (i := 15) (N := some 30) rfl rfl HT_ (by decide) (fun K hK => ?_);refine Kd.R_append_step k59 (w0 := w) w.heap.size (by rfl) (.tmp 15) (.tmp 29) 31 59 (.agg #[(.string ⟨#[]⟩), (.string ⟨#[]⟩)]) 32 rfl Tryz.underlying31 info59 rfl (by decide) (by omega) u3 pg (⟨pj, pk⟩ : S59) [.string pj, .string pk] (fun _ => True) (fun _ => False) rfl rfl ?aP (fun _ hk => hk.elim) ?aF ?aO ?aB ?aS ?aL ?_;(case aP => exact k59_mkM _ _ _ (⟨pj, pk⟩ : S59));(case aB => exact (bel_ HB.out));(case aF => exact (fun _ _ => trivial));(case aO => exact (R_ pf.out));(case aS => exact (below_size (bel_ HB.out)));(case aL => have := pu.out; omega);intro pB w11 ho hb hg hat;rw [← pv.out] at ho;replace HB := am_ (hb);have px := am_ (ho);clear pf ho hb hg hat;refine hK.out _ _ ⟨((HB.out.cell (World.block_lt_of_cell? w _ pc)).trans pc), ((HB.out.cell (World.block_lt_of_cell? w _ pb)).trans pb), ((HB.out.cell (World.block_lt_of_cell? w _ pe)).trans pe), ((HB.out.cell (World.block_lt_of_cell? w _ pd)).trans pd)⟩ (fun hHeld => ?_);clear hK K;refine norm_ (a' := ?_) ?_ ?_;rotate_left
         ·show Act.put _ (some 30) _ = _
          simp only [Act.put, sx_, s0_, s1_, i64_w, i32_w];rfl
         refine pur_ (i := 16) (N := some 3) (v := ?_) (a' := ?_) rfl rfl HT_ (fun _ _ _ h => h) (Or.inl ⟨by rfl, ?_⟩) ?_ ?_;rotate_left
         ·intro w'
          go_simp;(with_reducible rfl)
         rotate_left
         ·simp only [Act.put, sx_, s0_, s1_, i64_w, i32_w]
          rfl
         refine done_ (done_of HT_.out kr_) ?_;try go_wp2
         go_roundg kj1
         case measure => have := HK1.out; have := HJ1.out; omega
         case rel => exact ⟨(pq), (wrap64 (pa + 1)), sd_, H', ⟨le2_ HK1.out HJ1.out⟩, ⟨R_ px.out⟩, ⟨bel_ HB.out⟩⟩
        ·rw [if_neg c9] at H
         cases H
       ·rw [if_neg c6] at H
        cases H
      ·rw [if_neg c5] at H
       cases H
     ·replace c4 := Bool.eq_false_iff.mpr c4
      subst c4;replace H := iff_ H;obtain rfl := Option.some.inj H;go_wp2;go_ret;exact ⟨_, by first | rfl | (simp [errW_none, errW_some] <;> rfl) | (simp [*, errW_none, errW_some] <;> rfl), by (with_reducible repeat (first | apply Kd.R_alloc | apply Kd.R_drewN | apply Kd.R_drew)); exact pf.out, bel_ HB.out⟩

/-! ### tolllaw06_Asked: function 16 -/
def tolllaw06_Asked.f (k : Nat) (a0_0 : ByteArray) (a0_1 : ByteArray) (a0_2 : ByteArray) (l0_3 : List (S59)) (l0_4 : List (S59)) : Option (ByteArray × ByteArray × ByteArray × (List (S59)) × (List (S59))) := (tolllaw01_Few.f a0_0).bind fun t279 => ((tolllaw01_Few.f a0_1).bind fun t280 => ((tolllaw01_Few.f a0_2).bind fun t281 => ((tolllaw05_Few.f k l0_3).bind fun t282 => ((tolllaw05_Few.f k l0_4).bind fun t285 => (some (t279, t280, t281, t282, t285))))))
theorem tolllaw06_Asked.mono : ∀ a0 a1 a2 a3 a4 k, LeO (tolllaw06_Asked.f k a0 a1 a2 a3 a4) (tolllaw06_Asked.f (k + 1) a0 a1 a2 a3 a4) := by
 intro a0 a1 a2 a3 a4 k
 unfold tolllaw06_Asked.f
 repeat' with_reducible first | apply tolllaw05_Few.mono | apply LeO.refl | apply LeO.none | apply LeO.ite | refine LeO.bind ?_ fun _ => ?_
def tolllaw06_Asked.T1 : Bool × List (List Nat × List Nat) := (true, [([], []), ([0], [0]), ([1], [1]), ([], []), ([3], [3]), ([4, 2], [4]), ([], []), ([6], [6]), ([7, 5], [7]), ([], []), ([9], [9]), ([10, 8], [10]), ([], []), ([12], [12]), ([13, 11], [13]), ([2, 5, 8, 11, 14], [2, 5, 8, 11, 14]), ([15, 14, 0, 1, 2, 3, 4, 5, 6, 7, 8, 9, 10, 11, 12, 13, 14, 15], [15])])
def tolllaw06_Asked.B1 : List Nat := [0, 1, 3, 0, 8, 31, 0, 64, 255, 0, 512, 2047, 0, 4096, 16383, 32767, 65535]
theorem tolllaw06_Asked.tab1 : rtab .any (opsOf Tryz.f16 1) = tolllaw06_Asked.T1 := by kernel_rfl
theorem tolllaw06_Asked.bits1 : waitsOk tolllaw06_Asked.T1.2 tolllaw06_Asked.B1 = true := by kernel_rfl
set_option maxHeartbeats 8000000 in
set_option maxRecDepth 100000 in
theorem tolllaw06_Asked.calls (k : Nat) (pg : ByteArray) (ph : ByteArray) (pi : ByteArray) (pj : Option Addr) (c0_3 : Nat) (pe : List (S59)) (pk : Option Addr) (c0_4 : Nat) (pf : List (S59)) (r1 : ByteArray) (r2 : ByteArray) (r3 : ByteArray) (r4 : List (S59)) (r5 : List (S59)) (w : World) (hr0_3 : Kd.C k59 w pj pe.length pe) (hc0_3 : pe.length ≤ c0_3) (hr0_4 : Kd.C k59 w pk pf.length pf) (hc0_4 : pf.length ≤ c0_4) (h : tolllaw06_Asked.f k pg ph pi pe pf = some (r1, r2, r3, r4, r5)) :
  Calls Tryz.prog 16 #[.agg #[.string pg, .string ph, .string pi, .slice pj pe.length c0_3, .slice pk pf.length c0_4]] w fun e w' => ∃ v3_ v4_ : Value, e = .returned (.agg #[.string r1, .string r2, .string r3, v3_, v4_]) ∧ Kd.R k59 59 w' w.heap.size (fun k_ => some k_ ≠ (v4_ : Value).ownBlock) v3_ r4 ∧ Kd.R k59 59 w' w.heap.size (fun k_ => some k_ ≠ (v3_ : Value).ownBlock) v4_ r5 ∧ Below w.heap.size w w' := by
 have hu33 := Tryz.underlying33;have pu := Aside0.mk hr0_3;have pv := Aside0.mk hc0_3;clear hr0_3 hc0_3;have pw := Aside0.mk hr0_4;have px := Aside0.mk hc0_4;clear hr0_4 hc0_4;have HB := am_ (Below.refl w.heap.size w);have H : ((tolllaw01_Few.f pg).bind fun po => ((tolllaw01_Few.f ph).bind fun pp => ((tolllaw01_Few.f pi).bind fun pq => ((tolllaw05_Few.f k pe).bind fun pr => ((tolllaw05_Few.f k pf).bind fun ps => (some (po, pp, pq, pr, ps))))))) = some (r1, r2, r3, r4, r5) := h;clear h;obtain ⟨po, A2, H⟩ := bnd_ H;obtain ⟨pp, A3, H⟩ := bnd_ H;obtain ⟨pq, A4, H⟩ := bnd_ H;obtain ⟨pr, A5, H⟩ := bnd_ H;obtain ⟨ps, A6, H⟩ := bnd_ H;simp only [Option.some.injEq, Prod.mk.injEq] at H;obtain ⟨rfl, rfl, rfl, rfl, rfl⟩ := H;go_enter Tryz.func16, Tryz.ntmps16;try go_wp2_with (first | ((with_reducible refine gate_dst (N := 1) rfl ?_); refine box_event ?hg (N := 1) ?hd (cs := #[.string pg, .string ph, .string pi, .slice pj pe.length c0_3, .slice pk pf.length c0_4]) (t := 33) ?hr ?_; (case hd => rfl); (case hg => rfl); (case hr => first | (go_simp; done) | (go_simp; rfl)); intro pl hg w7 hbox hb; have pa := am_ (hbox); have pD := sz_ HB hg; have pE := sz_ HB hg; replace HB := bs_ HB hb; clear hb hbox hg) | ((with_reducible refine gate_dst (N := 2) rfl ?_); refine box_event ?hg (N := 2) ?hd (cs := #[.string (⟨#[]⟩ : ByteArray), .string (⟨#[]⟩ : ByteArray), .string (⟨#[]⟩ : ByteArray), .slice none 0 0, .slice none 0 0]) (t := 33) ?hr ?_; (case hd => rfl); (case hg => rfl); (case hr => first | (go_simp; done) | (go_simp; rfl)); intro pb hg w8 hbox hb; have pd := am_ (hbox); have pF := sz_ HB hg; have pG := sz_ HB hg; replace HB := bs_ HB hb; have pc := nl_ pa hg; have pm := nr_ pa hg; replace pa := bb_ pa hb; clear hb hbox hg))
 replace pa := am_ (blk_drew pa.out);replace pd := am_ (blk_drew pd.out);replace HB := am_ (below_drew1 HB.out);refine start_ (n := 17) (S := fun w' => w'.cell? ⟨pl, 0, none⟩ = some (.string pg) ∧ w'.cell? ⟨pl, 1, none⟩ = some (.string ph) ∧ w'.cell? ⟨pl, 2, none⟩ = some (.string pi) ∧ w'.cell? ⟨pl, 3, none⟩ = some (.slice pj pe.length c0_3) ∧ w'.cell? ⟨pl, 4, none⟩ = some (.slice pk pf.length c0_4)) (ds := []) #[false, false, false, false, false, false, false, false, false, false, false, false, false, false, false, false, false] kr_ rfl rfl ⟨(blk_cell pa.out 0).trans rfl, (blk_cell pa.out 1).trans rfl, (blk_cell pa.out 2).trans rfl, (blk_cell pa.out 3).trans rfl, (blk_cell pa.out 4).trans rfl⟩ (fun hHeld => ?_); refine with_tabW tolllaw06_Asked.tab1 tolllaw06_Asked.bits1 (fun HT_ HW_ => ?_);generalize w8.drew = w9 at pa pd HB hHeld ⊢;refine pur_ (i := 0) (N := some 3) (v := ?_) (a' := ?_) rfl rfl HT_ (fun _ _ _ h => h) (Or.inl ⟨by rfl, ?_⟩) ?_ ?_;rotate_left
 ·intro w'
  go_simp;(with_reducible rfl)
 rotate_left
 ·simp only [Act.put, sx_, s0_, s1_, i64_w, i32_w]
  rfl
 refine pur_ (i := 3) (N := some 6) (v := ?_) (a' := ?_) rfl rfl HT_ (fun _ _ _ h => h) (Or.inl ⟨by rfl, ?_⟩) ?_ ?_;rotate_left
 ·intro w'
  go_simp;(with_reducible rfl)
 rotate_left
 ·simp only [Act.put, sx_, s0_, s1_, i64_w, i32_w]
  rfl
 refine pur_ (i := 6) (N := some 9) (v := ?_) (a' := ?_) rfl rfl HT_ (fun _ _ _ h => h) (Or.inl ⟨by rfl, ?_⟩) ?_ ?_;rotate_left
 ·intro w'
  go_simp;(with_reducible rfl)
 rotate_left
 ·simp only [Act.put, sx_, s0_, s1_, i64_w, i32_w]
  rfl
 refine pur_ (i := 9) (N := some 12) (v := ?_) (a' := ?_) rfl rfl HT_ (fun _ _ _ h => h) (Or.inl ⟨by rfl, ?_⟩) ?_ ?_;rotate_left
 ·intro w'
  go_simp;(with_reducible rfl)
 rotate_left
 ·simp only [Act.put, sx_, s0_, s1_, i64_w, i32_w]
  rfl
 refine pur_ (i := 12) (N := some 15) (v := ?_) (a' := ?_) rfl rfl HT_ (fun _ _ _ h => h) (Or.inl ⟨by rfl, ?_⟩) ?_ ?_;rotate_left
 ·intro w'
  go_simp;(with_reducible rfl)
 rotate_left
 ·simp only [Act.put, sx_, s0_, s1_, i64_w, i32_w]
  rfl
 refine tak_ (i := 1) (N := some 4) (v := ?_) (a' := ?_) rfl rfl HT_ HW_ (fun _ _ _ h => h) (Or.inl ⟨by rfl, ?_⟩) hHeld ?_ ?_;rotate_left
 ·rintro w' ⟨s0, s1, s2, s3, s4⟩
  go_simp;(with_reducible rfl)
 rotate_left
 ·simp only [Act.put, sx_, s0_, s1_, i64_w, i32_w]
  rfl
 refine tak_ (i := 4) (N := some 7) (v := ?_) (a' := ?_) rfl rfl HT_ HW_ (fun _ _ _ h => h) (Or.inl ⟨by rfl, ?_⟩) hHeld ?_ ?_;rotate_left
 ·rintro w' ⟨s0, s1, s2, s3, s4⟩
  go_simp;(with_reducible rfl)
 rotate_left
 ·simp only [Act.put, sx_, s0_, s1_, i64_w, i32_w]
  rfl
 refine tak_ (i := 7) (N := some 10) (v := ?_) (a' := ?_) rfl rfl HT_ HW_ (fun _ _ _ h => h) (Or.inl ⟨by rfl, ?_⟩) hHeld ?_ ?_;rotate_left
 ·rintro w' ⟨s0, s1, s2, s3, s4⟩
  go_simp;(with_reducible rfl)
 rotate_left
 ·simp only [Act.put, sx_, s0_, s1_, i64_w, i32_w]
  rfl
 refine tak_ (i := 10) (N := some 13) (v := ?_) (a' := ?_) rfl rfl HT_ HW_ (fun _ _ _ h => h) (Or.inl ⟨by rfl, ?_⟩) hHeld ?_ ?_;rotate_left
 ·rintro w' ⟨s0, s1, s2, s3, s4⟩
  go_simp;(with_reducible rfl)
 rotate_left
 ·simp only [Act.put, sx_, s0_, s1_, i64_w, i32_w]
  rfl
 refine tak_ (i := 13) (N := some 16) (v := ?_) (a' := ?_) rfl rfl HT_ HW_ (fun _ _ _ h => h) (Or.inl ⟨by rfl, ?_⟩) hHeld ?_ ?_;rotate_left
 ·rintro w' ⟨s0, s1, s2, s3, s4⟩
  go_simp;(with_reducible rfl)
 rotate_left
 ·simp only [Act.put, sx_, s0_, s1_, i64_w, i32_w]
  rfl
 refine ono_ (i := 2) (N := some 5) rfl rfl HT_ (by decide) (fun K hK => ?_);refine goes_ Tryz.func22 kr_ rfl #[.string pg] (by rfl) rfl rfl rl_ ?_;(with_reducible refine (tolllaw01_Few.calls pg po _ A2.out).mono ?_);rintro e w' ⟨rfl, ⟨nd, rfl⟩⟩;refine ⟨_, rfl, ?_⟩;refine hK.out _ _ ⟨(blk_cell pa.out 0).trans rfl, (blk_cell pa.out 1).trans rfl, (blk_cell pa.out 2).trans rfl, (blk_cell pa.out 3).trans rfl, (blk_cell pa.out 4).trans rfl⟩ (fun hHeld => ?_);clear hK K;refine norm_ (a' := ?_) ?_ ?_;rotate_left
 ·show Act.put _ (some 5) _ = _
  simp only [Act.put, sx_, s0_, s1_, i64_w, i32_w];rfl
 refine ono_ (i := 5) (N := some 8) rfl rfl HT_ (by decide) (fun K hK => ?_);refine goes_ Tryz.func22 kr_ rfl #[.string ph] (by rfl) rfl rfl rl_ ?_;(with_reducible refine (tolllaw01_Few.calls ph pp _ A3.out).mono ?_);rintro e w' ⟨rfl, ⟨nd, rfl⟩⟩;refine ⟨_, rfl, ?_⟩;refine hK.out _ _ ⟨(blk_cell pa.out 0).trans rfl, (blk_cell pa.out 1).trans rfl, (blk_cell pa.out 2).trans rfl, (blk_cell pa.out 3).trans rfl, (blk_cell pa.out 4).trans rfl⟩ (fun hHeld => ?_);clear hK K;refine norm_ (a' := ?_) ?_ ?_;rotate_left
 ·show Act.put _ (some 8) _ = _
  simp only [Act.put, sx_, s0_, s1_, i64_w, i32_w];rfl
 refine ono_ (i := 8) (N := some 11) rfl rfl HT_ (by decide) (fun K hK => ?_);refine goes_ Tryz.func22 kr_ rfl #[.string pi] (by rfl) rfl rfl rl_ ?_;(with_reducible refine (tolllaw01_Few.calls pi pq _ A4.out).mono ?_);rintro e w' ⟨rfl, ⟨nd, rfl⟩⟩;refine ⟨_, rfl, ?_⟩;refine hK.out _ _ ⟨(blk_cell pa.out 0).trans rfl, (blk_cell pa.out 1).trans rfl, (blk_cell pa.out 2).trans rfl, (blk_cell pa.out 3).trans rfl, (blk_cell pa.out 4).trans rfl⟩ (fun hHeld => ?_);clear hK K;refine norm_ (a' := ?_) ?_ ?_;rotate_left
 ·show Act.put _ (some 11) _ = _
  simp only [Act.put, sx_, s0_, s1_, i64_w, i32_w];rfl
 refine ono_ (i := 11) (N := some 14) rfl rfl HT_ (by decide) (fun K hK => ?_);refine goes_ Tryz.func38 kr_ rfl #[.slice pj pe.length c0_3] (by rfl) rfl rfl rl_ ?_;(with_reducible refine (tolllaw05_Few.calls k _ _ pe pr _ ?side1 ?side2 A5.out).mono ?_);(case side1 => exact C_ (Kd.C_below pu.out (bel_ HB.out)));(case side2 => exact pv.out);rintro e w10 ⟨pH, rfl, ho0, hb⟩;refine ⟨_, rfl, ?_⟩;have pn := am_ (Kd.R_lower ho0 (below_size (bel_ HB.out)));replace pa := bb_ pa hb;replace pd := bb_ pd hb;replace HB := bs_ HB hb;(try clear hb);(try clear hb2);(try clear hk);(try clear hi);(try clear ho0);refine hK.out _ _ ⟨(blk_cell pa.out 0).trans rfl, (blk_cell pa.out 1).trans rfl, (blk_cell pa.out 2).trans rfl, (blk_cell pa.out 3).trans rfl, (blk_cell pa.out 4).trans rfl⟩ (fun hHeld => ?_);clear hK K;refine norm_ (a' := ?_) ?_ ?_;rotate_left
 ·show Act.put _ (some 14) _ = _
  simp only [Act.put, sx_, s0_, s1_, i64_w, i32_w];rfl
 refine ono_ (i := 14) (N := some 17) rfl rfl HT_ (by decide) (fun K hK => ?_);refine goes_ Tryz.func38 kr_ rfl #[.slice pk pf.length c0_4] (by rfl) rfl rfl rl_ ?_;(with_reducible refine (tolllaw05_Few.calls k _ _ pf ps _ ?side1 ?side2 A6.out).mono ?_);(case side1 => exact C_ (Kd.C_below pw.out HB.out));(case side2 => exact px.out);rintro e w11 ⟨pI, rfl, ho0, hb⟩;refine ⟨_, rfl, ?_⟩;have pt := am_ (Kd.R_lower (Kd.R_new' ho0 (Kd.R_lt (R_ pn.out))) (below_size (bel_ HB.out)));replace pn := am_ (Kd.R_elder' (R_ pn.out) (Kd.R_base ho0) hb);replace pa := bb_ pa hb;replace pd := bb_ pd hb;replace HB := bs_ HB hb;(try clear hb);(try clear hb2);(try clear hk);(try clear hi);(try clear ho0);obtain ⟨pz, pA, eo12⟩ := Kd.R_slice pt.out;(first | subst eo12 | (injection eo12 with f1_ f2_ f3_; have f4_ := f1_.symm; have f5_ := f3_.symm; clear f1_ f2_ f3_; subst f4_; subst f5_));obtain ⟨pB, pC, eo13⟩ := Kd.R_slice pn.out;(first | subst eo13 | (injection eo13 with f1_ f2_ f3_; have f4_ := f1_.symm; have f5_ := f3_.symm; clear f1_ f2_ f3_; subst f4_; subst f5_));refine hK.out _ _ ⟨(blk_cell pa.out 0).trans rfl, (blk_cell pa.out 1).trans rfl, (blk_cell pa.out 2).trans rfl, (blk_cell pa.out 3).trans rfl, (blk_cell pa.out 4).trans rfl⟩ (fun hHeld => ?_);clear hK K;refine norm_ (a' := ?_) ?_ ?_;rotate_left
 ·show Act.put _ (some 17) _ = _
  simp only [Act.put, sx_, s0_, s1_, i64_w, i32_w];rfl
 refine pur_ (i := 15) (N := some 18) (v := ?_) (a' := ?_) rfl rfl HT_ (fun _ _ _ h => h) (Or.inl ⟨by rfl, ?_⟩) ?_ ?_;rotate_left
 ·intro w'
  go_simp;(with_reducible rfl)
 rotate_left
 ·simp only [Act.put, sx_, s0_, s1_, i64_w, i32_w]
  rfl
 refine ono_ (i := 16) (N := none) rfl rfl HT_ (by decide) (fun K hK => ?_);have hs14 : w11.cell? ⟨pb, 0, none⟩ = some (.string (⟨#[]⟩ : ByteArray)) := (blk_cell pd.out 0).trans rfl;have hfs14 := blk_frozen pd.out 0;have hns14_0 := pc.out;have hms14_0 := pm.out;have hs15 : w11.cell? ⟨pb, 1, none⟩ = some (.string (⟨#[]⟩ : ByteArray)) := (blk_cell pd.out 1).trans rfl;have hfs15 := blk_frozen pd.out 1;have hns15_0 := pc.out;have hms15_0 := pm.out;have hs16 : w11.cell? ⟨pb, 2, none⟩ = some (.string (⟨#[]⟩ : ByteArray)) := (blk_cell pd.out 2).trans rfl;have hfs16 := blk_frozen pd.out 2;have hns16_0 := pc.out;have hms16_0 := pm.out;have hs17 : w11.cell? ⟨pb, 3, none⟩ = some (.slice none 0 0) := (blk_cell pd.out 3).trans rfl;have hfs17 := blk_frozen pd.out 3;have hns17_0 := pc.out;have hms17_0 := pm.out;have hs18 : w11.cell? ⟨pb, 4, none⟩ = some (.slice none 0 0) := (blk_cell pd.out 4).trans rfl;have hfs18 := blk_frozen pd.out 4;have hns18_0 := pc.out;have hms18_0 := pm.out;refine skip_ (w1 := ?_) (by rfl) rfl ?_ ?_;rotate_left
 ·go_simp
  rfl
 refine hK.out _ _ ⟨((cell_far (p := ⟨pb, _, none⟩) pc.out _).trans (((cell_far (p := ⟨pb, _, none⟩) pc.out _).trans (((cell_far (p := ⟨pb, _, none⟩) pc.out _).trans (((cell_far (p := ⟨pb, _, none⟩) pc.out _).trans (((cell_far (p := ⟨pb, _, none⟩) pc.out _).trans (hHeld.1)))))))))), ((cell_far (p := ⟨pb, _, none⟩) pc.out _).trans (((cell_far (p := ⟨pb, _, none⟩) pc.out _).trans (((cell_far (p := ⟨pb, _, none⟩) pc.out _).trans (((cell_far (p := ⟨pb, _, none⟩) pc.out _).trans (((cell_far (p := ⟨pb, _, none⟩) pc.out _).trans (hHeld.2.1)))))))))), ((cell_far (p := ⟨pb, _, none⟩) pc.out _).trans (((cell_far (p := ⟨pb, _, none⟩) pc.out _).trans (((cell_far (p := ⟨pb, _, none⟩) pc.out _).trans (((cell_far (p := ⟨pb, _, none⟩) pc.out _).trans (((cell_far (p := ⟨pb, _, none⟩) pc.out _).trans (hHeld.2.2.1)))))))))), ((cell_far (p := ⟨pb, _, none⟩) pc.out _).trans (((cell_far (p := ⟨pb, _, none⟩) pc.out _).trans (((cell_far (p := ⟨pb, _, none⟩) pc.out _).trans (((cell_far (p := ⟨pb, _, none⟩) pc.out _).trans (((cell_far (p := ⟨pb, _, none⟩) pc.out _).trans (hHeld.2.2.2.1)))))))))), ((cell_far (p := ⟨pb, _, none⟩) pc.out _).trans (((cell_far (p := ⟨pb, _, none⟩) pc.out _).trans (((cell_far (p := ⟨pb, _, none⟩) pc.out _).trans (((cell_far (p := ⟨pb, _, none⟩) pc.out _).trans (((cell_far (p := ⟨pb, _, none⟩) pc.out _).trans (hHeld.2.2.2.2))))))))))⟩ (fun hHeld => ?_);clear hK K;refine done_ (done_of HT_.out kr_) ?_;try go_wp2
 refine bodyPost_ret (results_cell_row rfl _ _ pb 33 #[.string po, .string pp, .string pq, .slice pB pr.length pC, .slice pz ps.length pA] (0, 0) _ rfl (bp_ pd.out) Tryz.underlying33 rfl kr_) rfl ?_;exact ⟨_, _, by first | rfl | (simp [errW_none, errW_some] <;> rfl) | (simp [*, errW_none, errW_some] <;> rfl), by (with_reducible repeat (first | apply Kd.R_alloc | apply Kd.R_drewN | apply Kd.R_drew)); exact Kd.R_mono (Rf_ (Kd.R_types pn.out pd.out (by decide)) (fun _ hk => hk.2)) (fun _ hk => hk.1.2), by (with_reducible repeat (first | apply Kd.R_alloc | apply Kd.R_drewN | apply Kd.R_drew)); exact Kd.R_mono (Rf_ (Kd.R_types pt.out pd.out (by decide)) (fun _ hk => hk.2)) (fun _ hk => hk.1.2), bel_ HB.out⟩

/-! ### tolllaw03_Few: function 27 -/
def tolllaw03_Few.f (a0_0 : Int) (a0_1 : ByteArray) : Option (Int × ByteArray) := (tolllaw01_Few.f a0_1).bind fun t290 => (some (a0_0, t290))
set_option maxHeartbeats 8000000 in
set_option maxRecDepth 100000 in
theorem tolllaw03_Few.calls (pb : Int) (pc : ByteArray) (r1 : Int) (r2 : ByteArray) (w : World) (h : tolllaw03_Few.f pb pc = some (r1, r2)) :
  Calls Tryz.prog 27 #[.agg #[.int .i64 pb, .string pc]] w fun e w' => e = .returned (.agg #[.int .i64 r1, .string r2]) ∧ Below w.heap.size w w' := by
 have hu30 := Tryz.underlying30;have HB := am_ (Below.refl w.heap.size w);have H : ((tolllaw01_Few.f pc).bind fun pe => (some (pb, pe))) = some (r1, r2) := h;clear h;obtain ⟨pe, A2, H⟩ := bnd_ H;simp only [Option.some.injEq, Prod.mk.injEq] at H;obtain ⟨rfl, rfl⟩ := H;go_enter Tryz.func27, Tryz.ntmps27;go_wp2_with (first | ((with_reducible refine gate_dst (N := 1) rfl ?_); refine box_event ?hg (N := 1) ?hd (cs := #[.int .i64 pb, .string pc]) (t := 30) ?hr ?_; (case hd => rfl); (case hg => rfl); (case hr => first | (go_simp; done) | (go_simp; rfl)); intro ph hg w3 hbox hb; have pa := am_ (hbox); have pj := sz_ HB hg; have pk := sz_ HB hg; replace HB := bs_ HB hb; clear hb hbox hg) | ((with_reducible refine gate_dst (N := 2) rfl ?_); refine box_event ?hg (N := 2) ?hd (cs := #[.int .i64 0, .string (⟨#[]⟩ : ByteArray)]) (t := 30) ?hr ?_; (case hd => rfl); (case hg => rfl); (case hr => first | (go_simp; done) | (go_simp; rfl)); intro pf hg w4 hbox hb; have pd := am_ (hbox); have pl := sz_ HB hg; have pm := sz_ HB hg; replace HB := bs_ HB hb; have pi := nl_ pa hg; have pg := nr_ pa hg; replace pa := bb_ pa hb; clear hb hbox hg; have pn := pi.out; have po := pg.out; obtain ⟨pp, pq, pr, ps⟩ := blk2 pa.out) | ((with_reducible refine gate_callee (f := 22) rfl ?_); refine goesL_ (some 5) rfl rfl Tryz.func22 kr_ rfl #[.string pc] rfl rl_ ?_; (with_reducible refine (tolllaw01_Few.calls pc pe _ A2.out).mono ?_); rintro e w' ⟨rfl, ⟨nd, rfl⟩⟩; refine ⟨_, rfl, ?_⟩; (try (rw [drewN_self w4]; generalize hq_ : World.drewN w4 _ = w4; have n0_ : Aside0 (w4.heap[ph]? = some (.cells #[.int .i64 pb, .string pc] 30 (0, 0))) := ⟨by rw [← hq_]; exact (blk_ pa.out)⟩; have n1_ : Aside0 (w4.heap[pf]? = some (.cells #[.int .i64 0, .string (⟨#[]⟩ : ByteArray)] 30 (0, 0))) := ⟨by rw [← hq_]; exact (blk_ pd.out)⟩; have n2_ : Aside0 (Below w.heap.size w w4) := ⟨by rw [← hq_]; exact (bel_ HB.out)⟩; clear pa pd HB hq_; have pa := n0_; have pd := n1_; have HB := n2_; clear n0_ n1_ n2_)); obtain ⟨pt, pu, pv, pw⟩ := blk2 pa.out; obtain ⟨px, pz, pA, pB⟩ := blk2 pd.out));refine bodyPost_ret (results_cell_row rfl _ _ pf 30 #[.int .i64 pb, .string pe] (0, 0) _ rfl (by (with_reducible repeat (first | refine blk_drewN ?_ _ | refine blk_drew ?_ | refine blk_alloc ?_ _)); refine blk_put (cs := #[.int .i64 pb, .string (⟨#[]⟩ : ByteArray)]) ?_ 1 _ rfl; (with_reducible repeat (first | refine blk_drewN ?_ _ | refine blk_drew ?_ | refine blk_alloc ?_ _)); refine blk_put (cs := #[.int .i64 0, .string (⟨#[]⟩ : ByteArray)]) ?_ 0 _ rfl; (with_reducible repeat (first | refine blk_drewN ?_ _ | refine blk_drew ?_ | refine blk_alloc ?_ _)); refine blk_far ?_ pg.out _; (with_reducible repeat (first | refine blk_drewN ?_ _ | refine blk_drew ?_ | refine blk_alloc ?_ _)); exact pd.out) Tryz.underlying30 rfl kr_) rfl ?_;exact ⟨fi_, bel_ HB.out⟩

end Go.Proofs.YtfdopmjgiakcdaaGreatDoor.P
