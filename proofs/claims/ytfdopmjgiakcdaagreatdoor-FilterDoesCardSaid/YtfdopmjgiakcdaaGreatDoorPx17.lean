-- written by wip/tool/hprint.py of this repo: the kit's print, with contracts by hand joined; Lean checks it.
import Derived.Test.YtfdopmjgiakcdaaGreatDoorPx0
import Derived.Test.YtfdopmjgiakcdaaGreatDoorPx3
namespace Go.Proofs.YtfdopmjgiakcdaaGreatDoor.P
open Go.RowKit Go.Proofs.YtfdopmjgiakcdaaGreatDoorW.PrintWords Go.Proofs.YtfdopmjgiakcdaaGreatDoorW.PrintLast Go.Proofs.YtfdopmjgiakcdaaGreatDoorW.PrintMore
attribute [local go_sem] max2_int min2_int max_two min_two max_three min_three max_four min_four   -- for this text's walks alone
set_option linter.unusedVariables false
set_option linter.unusedSimpArgs false

attribute [local go_sem high] eqA59
/-! ### tollref07_SameAsk: function 21 -/
mutual
def tollref07_SameAsk.j0 : Nat → Bool → ByteArray → ByteArray → ByteArray → List (S59) → List (S59) → ByteArray → ByteArray → ByteArray → List (S59) → List (S59) → Option (Bool)
 | 0, _, _, _, _, _, _, _, _, _, _, _ => none
 | k + 1, x43, x381000, x381001, x381002, x381003, x381004, x382000, x382001, x382002, x382003, x382004 => if x43 = true then (some false) else (tollref07_SameAsk.l0 k 0 x381000 x381001 x381002 x381003 x381004 x382000 x382001 x382002 x382003 x382004)
def tollref07_SameAsk.l0 : Nat → Int → ByteArray → ByteArray → ByteArray → List (S59) → List (S59) → ByteArray → ByteArray → ByteArray → List (S59) → List (S59) → Option (Bool)
 | 0, _, _, _, _, _, _, _, _, _, _, _ => none
 | k + 1, x5, x381000, x381001, x381002, x381003, x381004, x382000, x382001, x382002, x382003, x382004 => if x5 < (x381003.length : Int) then (if 0 ≤ x5 then (if x5 < (x382003.length : Int) then (if (!((((rd_T59 x381003 x5).f0).toList) == (((rd_T59 x382003 x5).f0).toList)) || (!((((rd_T59 x381003 x5).f1).toList) == (((rd_T59 x382003 x5).f1).toList)))) = true then (some false) else (tollref07_SameAsk.l0 k (wrap64 (x5 + 1)) x381000 x381001 x381002 x381003 x381004 x382000 x382001 x382002 x382003 x382004)) else (none)) else (none)) else (tollref07_SameAsk.l1 k 0 x381000 x381001 x381002 x381003 x381004 x382000 x382001 x382002 x382003 x382004)
def tollref07_SameAsk.l1 : Nat → Int → ByteArray → ByteArray → ByteArray → List (S59) → List (S59) → ByteArray → ByteArray → ByteArray → List (S59) → List (S59) → Option (Bool)
 | 0, _, _, _, _, _, _, _, _, _, _, _ => none
 | k + 1, x6, x381000, x381001, x381002, x381003, x381004, x382000, x382001, x382002, x382003, x382004 => if x6 < (x381004.length : Int) then (if 0 ≤ x6 then (if x6 < (x382004.length : Int) then (if (!((((rd_T59 x381004 x6).f0).toList) == (((rd_T59 x382004 x6).f0).toList)) || (!((((rd_T59 x381004 x6).f1).toList) == (((rd_T59 x382004 x6).f1).toList)))) = true then (some false) else (tollref07_SameAsk.l1 k (wrap64 (x6 + 1)) x381000 x381001 x381002 x381003 x381004 x382000 x382001 x382002 x382003 x382004)) else (none)) else (none)) else (some true)
end
def tollref07_SameAsk.f (k : Nat) (a0_0 : ByteArray) (a0_1 : ByteArray) (a0_2 : ByteArray) (l0_3 : List (S59)) (l0_4 : List (S59)) (a1_0 : ByteArray) (a1_1 : ByteArray) (a1_2 : ByteArray) (l1_3 : List (S59)) (l1_4 : List (S59)) : Option (Bool) := if a0_0.toList = a1_0.toList then (if a0_1.toList = a1_1.toList then (if a0_2.toList = a1_2.toList then (if (l0_3.length : Int) = (l1_3.length : Int) then (tollref07_SameAsk.j0 k ((l0_4.length : Int) != (l1_4.length : Int)) a0_0 a0_1 a0_2 l0_3 l0_4 a1_0 a1_1 a1_2 l1_3 l1_4) else (tollref07_SameAsk.j0 k true a0_0 a0_1 a0_2 l0_3 l0_4 a1_0 a1_1 a1_2 l1_3 l1_4)) else (tollref07_SameAsk.j0 k true a0_0 a0_1 a0_2 l0_3 l0_4 a1_0 a1_1 a1_2 l1_3 l1_4)) else (tollref07_SameAsk.j0 k true a0_0 a0_1 a0_2 l0_3 l0_4 a1_0 a1_1 a1_2 l1_3 l1_4)) else (tollref07_SameAsk.j0 k true a0_0 a0_1 a0_2 l0_3 l0_4 a1_0 a1_1 a1_2 l1_3 l1_4)
theorem tollref07_SameAsk.mono_l : ∀ k, (∀ y0 y1 y2 y3 y4 y5 y6 y7 y8 y9 y10, LeO (tollref07_SameAsk.j0 k y0 y1 y2 y3 y4 y5 y6 y7 y8 y9 y10) (tollref07_SameAsk.j0 (k + 1) y0 y1 y2 y3 y4 y5 y6 y7 y8 y9 y10)) ∧ (∀ y0 y1 y2 y3 y4 y5 y6 y7 y8 y9 y10, LeO (tollref07_SameAsk.l0 k y0 y1 y2 y3 y4 y5 y6 y7 y8 y9 y10) (tollref07_SameAsk.l0 (k + 1) y0 y1 y2 y3 y4 y5 y6 y7 y8 y9 y10)) ∧ (∀ y0 y1 y2 y3 y4 y5 y6 y7 y8 y9 y10, LeO (tollref07_SameAsk.l1 k y0 y1 y2 y3 y4 y5 y6 y7 y8 y9 y10) (tollref07_SameAsk.l1 (k + 1) y0 y1 y2 y3 y4 y5 y6 y7 y8 y9 y10))
 | 0 => ⟨fun _ _ _ _ _ _ _ _ _ _ _ r h => by simp [tollref07_SameAsk.j0] at h, fun _ _ _ _ _ _ _ _ _ _ _ r h => by simp [tollref07_SameAsk.l0] at h, fun _ _ _ _ _ _ _ _ _ _ _ r h => by simp [tollref07_SameAsk.l1] at h⟩
 | k + 1 => by
  obtain ⟨ih0, ih1, ih2⟩ := tollref07_SameAsk.mono_l k
  refine ⟨?_, ?_, ?_⟩
  ·intro y0 y1 y2 y3 y4 y5 y6 y7 y8 y9 y10
   unfold tollref07_SameAsk.j0
   repeat' with_reducible first | apply ih0 | apply ih1 | apply ih2 | apply LeO.refl | apply LeO.none | apply LeO.ite | refine LeO.bind ?_ fun _ => ?_
  ·intro y0 y1 y2 y3 y4 y5 y6 y7 y8 y9 y10
   unfold tollref07_SameAsk.l0
   repeat' with_reducible first | apply ih0 | apply ih1 | apply ih2 | apply LeO.refl | apply LeO.none | apply LeO.ite | refine LeO.bind ?_ fun _ => ?_
  ·intro y0 y1 y2 y3 y4 y5 y6 y7 y8 y9 y10
   unfold tollref07_SameAsk.l1
   repeat' with_reducible first | apply ih0 | apply ih1 | apply ih2 | apply LeO.refl | apply LeO.none | apply LeO.ite | refine LeO.bind ?_ fun _ => ?_
theorem tollref07_SameAsk.mono : ∀ a0 a1 a2 a3 a4 a5 a6 a7 a8 a9 k, LeO (tollref07_SameAsk.f k a0 a1 a2 a3 a4 a5 a6 a7 a8 a9) (tollref07_SameAsk.f (k + 1) a0 a1 a2 a3 a4 a5 a6 a7 a8 a9) := by
 intro a0 a1 a2 a3 a4 a5 a6 a7 a8 a9 k
 obtain ⟨ih0, ih1, ih2⟩ := tollref07_SameAsk.mono_l k
 unfold tollref07_SameAsk.f
 repeat' with_reducible first | apply ih0 | apply ih1 | apply ih2 | apply LeO.refl | apply LeO.none | apply LeO.ite | refine LeO.bind ?_ fun _ => ?_
set_option maxHeartbeats 8000000 in
set_option maxRecDepth 100000 in
theorem tollref07_SameAsk.calls (k : Nat) (pi : ByteArray) (pj : ByteArray) (pk : ByteArray) (pq : Option Addr) (c0_3 : Nat) (pb : List (S59)) (pr : Option Addr) (c0_4 : Nat) (pf : List (S59)) (pl : ByteArray) (pm : ByteArray) (pn : ByteArray) (ps : Option Addr) (c1_3 : Nat) (pc : List (S59)) (pt : Option Addr) (c1_4 : Nat) (pg : List (S59)) (r : Bool) (w : World) (hr0_3 : Kd.C k59 w pq pb.length pb) (hc0_3 : pb.length ≤ c0_3) (hr0_4 : Kd.C k59 w pr pf.length pf) (hc0_4 : pf.length ≤ c0_4) (hr1_3 : Kd.C k59 w ps pc.length pc) (hc1_3 : pc.length ≤ c1_3) (hr1_4 : Kd.C k59 w pt pg.length pg) (hc1_4 : pg.length ≤ c1_4) (h : tollref07_SameAsk.f k pi pj pk pb pf pl pm pn pc pg = some r) :
  Calls Tryz.prog 21 #[.agg #[.string pi, .string pj, .string pk, .slice pq pb.length c0_3, .slice pr pf.length c0_4], .agg #[.string pl, .string pm, .string pn, .slice ps pc.length c1_3, .slice pt pg.length c1_4]] w fun e w' => e = .returned (.bool r) ∧ Below w.heap.size w w' := by
 have hu33 := Tryz.underlying33;have hu59 := Tryz.underlying59;have pI := Aside0.mk hr0_3;have qh := Aside0.mk hc0_3;clear hr0_3 hc0_3;have pJ := Aside0.mk hr0_4;have qi := Aside0.mk hc0_4;clear hr0_4 hc0_4;have pK := Aside0.mk hr1_3;have qj := Aside0.mk hc1_3;clear hr1_3 hc1_3;have pL := Aside0.mk hr1_4;have qk := Aside0.mk hc1_4;clear hr1_4 hc1_4;have HB := am_ (Below.refl w.heap.size w);have H : (if pi.toList = pl.toList then (if pj.toList = pm.toList then (if pk.toList = pn.toList then (if (pb.length : Int) = (pc.length : Int) then (tollref07_SameAsk.j0 k ((pf.length : Int) != (pg.length : Int)) pi pj pk pb pf pl pm pn pc pg) else (tollref07_SameAsk.j0 k true pi pj pk pb pf pl pm pn pc pg)) else (tollref07_SameAsk.j0 k true pi pj pk pb pf pl pm pn pc pg)) else (tollref07_SameAsk.j0 k true pi pj pk pb pf pl pm pn pc pg)) else (tollref07_SameAsk.j0 k true pi pj pk pb pf pl pm pn pc pg)) = some r := h;clear h;have HC3 := Aside0.mk H;clear H;go_enter Tryz.func21, Tryz.ntmps21;go_upto_region 1 with (first | ((with_reducible refine gate_dst (N := 2) rfl ?_); (try (refine gate_guard (by rfl) ?_; dsimp only)); refine box_event ?hg (N := 2) ?hd (cs := #[.string pi, .string pj, .string pk, .slice pq pb.length c0_3, .slice pr pf.length c0_4]) (t := 33) ?hr ?_; (case hd => rfl); (case hg => rfl); (case hr => first | (go_simp; done) | (go_simp; rfl)); intro pu hg w4 hbox hb; have pa := am_ (hbox); have pM := sz_ HB hg; have pN := sz_ HB hg; replace HB := bs_ HB hb; clear hb hbox hg) | ((with_reducible refine gate_dst (N := 3) rfl ?_); (try (refine gate_guard (by rfl) ?_; dsimp only)); refine box_event ?hg (N := 3) ?hd (cs := #[.string pl, .string pm, .string pn, .slice ps pc.length c1_3, .slice pt pg.length c1_4]) (t := 33) ?hr ?_; (case hd => rfl); (case hg => rfl); (case hr => first | (go_simp; done) | (go_simp; rfl)); intro pv hg w5 hbox hb; have ph := am_ (hbox); have pO := sz_ HB hg; have pP := sz_ HB hg; replace HB := bs_ HB hb; have po := nl_ pa hg; have pp := nr_ pa hg; replace pa := bb_ pa hb; clear hb hbox hg))
 repeat (go_quiet (first | ((with_reducible refine gate_dst (N := 2) rfl ?_); (try (refine gate_guard (by rfl) ?_; dsimp only)); refine box_event ?hg (N := 2) ?hd (cs := #[.string pi, .string pj, .string pk, .slice pq pb.length c0_3, .slice pr pf.length c0_4]) (t := 33) ?hr ?_; (case hd => rfl); (case hg => rfl); (case hr => first | (go_simp; done) | (go_simp; rfl)); intro pu hg w4 hbox hb; have pa := am_ (hbox); have pM := sz_ HB hg; have pN := sz_ HB hg; replace HB := bs_ HB hb; clear hb hbox hg) | ((with_reducible refine gate_dst (N := 3) rfl ?_); (try (refine gate_guard (by rfl) ?_; dsimp only)); refine box_event ?hg (N := 3) ?hd (cs := #[.string pl, .string pm, .string pn, .slice ps pc.length c1_3, .slice pt pg.length c1_4]) (t := 33) ?hr ?_; (case hd => rfl); (case hg => rfl); (case hr => first | (go_simp; done) | (go_simp; rfl)); intro pv hg w5 hbox hb; have ph := am_ (hbox); have pO := sz_ HB hg; have pP := sz_ HB hg; replace HB := bs_ HB hb; have po := nl_ pa hg; have pp := nr_ pa hg; replace pa := bb_ pa hb; clear hb hbox hg)); go_upto_region 1 with (first | ((with_reducible refine gate_dst (N := 2) rfl ?_); (try (refine gate_guard (by rfl) ?_; dsimp only)); refine box_event ?hg (N := 2) ?hd (cs := #[.string pi, .string pj, .string pk, .slice pq pb.length c0_3, .slice pr pf.length c0_4]) (t := 33) ?hr ?_; (case hd => rfl); (case hg => rfl); (case hr => first | (go_simp; done) | (go_simp; rfl)); intro pu hg w4 hbox hb; have pa := am_ (hbox); have pM := sz_ HB hg; have pN := sz_ HB hg; replace HB := bs_ HB hb; clear hb hbox hg) | ((with_reducible refine gate_dst (N := 3) rfl ?_); (try (refine gate_guard (by rfl) ?_; dsimp only)); refine box_event ?hg (N := 3) ?hd (cs := #[.string pl, .string pm, .string pn, .slice ps pc.length c1_3, .slice pt pg.length c1_4]) (t := 33) ?hr ?_; (case hd => rfl); (case hg => rfl); (case hr => first | (go_simp; done) | (go_simp; rfl)); intro pv hg w5 hbox hb; have ph := am_ (hbox); have pO := sz_ HB hg; have pP := sz_ HB hg; replace HB := bs_ HB hb; have po := nl_ pa hg; have pp := nr_ pa hg; replace pa := bb_ pa hb; clear hb hbox hg)))
 (try simp only [Act.put, List.setIfInBounds_toArray, List.set_cons_zero, List.set_cons_succ]);go_cut [43] (fun pR wc => ∃ (kq : Nat) (pG : Bool), pR = .bool pG ∧ Aside0 (tollref07_SameAsk.j0 kq pG pi pj pk pb pf pl pm pn pc pg = some r) ∧ Aside0 (kq ≤ k) ∧ Aside0 (wc.heap[pu]? = some (.cells #[.string pi, .string pj, .string pk, (.slice pq pb.length c0_3), (.slice pr pf.length c0_4)] 33 (0, 0))) ∧ Aside0 (wc.heap[pv]? = some (.cells #[.string pl, .string pm, .string pn, (.slice ps pc.length c1_3), (.slice pt pg.length c1_4)] 33 (0, 0))) ∧ Aside0 (Below w.heap.size w wc))
 case first =>
  have H := HC3.out;clear HC3;by_cases c6 : pi.toList = pl.toList
  ·rw [if_pos c6] at H
   have pw := eqb_ c6;have pH := neb_ c6;clear c6;(first | rw [pw] | rw [pH] | rw [pS] | (simp only [i64_w, i32_w]; rw [pw]) | skip);by_cases c7 : pj.toList = pm.toList
   ·rw [if_pos c7] at H
    have pT := eqb_ c7;have pU := neb_ c7;clear c7;by_cases c8 : pk.toList = pn.toList
    ·rw [if_pos c8] at H
     have pV := eqb_ c8;have pW := neb_ c8;clear c8;by_cases c9 : (pb.length : Int) = (pc.length : Int)
     ·rw [if_pos c9] at H
      have pX := eqb_ c9;have pY := neb_ c9;have pZ : (pb.length == pc.length) = true := by first | simpa using c9 | (simp at c9 ⊢; omega)
      clear c9;have H' := Aside0.mk H;clear H;have ql := po.out;have qm := pp.out;obtain ⟨qn, qo, qp, qq, qr, qs, qt, qu, qv, qw⟩ := blk5 pa.out;obtain ⟨qx, qy, qz, qA, qB, qC, qD, qE, qF, qG⟩ := blk5 ph.out;go_wp2;repeat (go_quiet (fail); try go_wp2)
      go_meet
      case rel => exact ⟨_, (((pf.length : Int) != (pg.length : Int))), sd_, H', ⟨le_⟩, ⟨blk_ pa.out⟩, ⟨blk_ ph.out⟩, ⟨bel_ HB.out⟩⟩
     ·rw [if_neg c9] at H
      have pX := eqf_ c9;have pY := nef_ c9;have pZ : (pb.length == pc.length) = false := by first | simpa using c9 | (simp at c9 ⊢; omega)
      have H' := Aside0.mk H;clear H;have qH := po.out;have qI := pp.out;obtain ⟨qJ, qK, qL, qM, qN, qO, qP, qQ, qR, qS⟩ := blk5 pa.out;obtain ⟨qT, qU, qV, qW, qX, qY, qZ, q0, q1, q2⟩ := blk5 ph.out;go_wp2;repeat (go_quiet (fail); try go_wp2)
      go_meet
      case rel => exact ⟨_, (true), sd_, H', ⟨le_⟩, ⟨blk_ pa.out⟩, ⟨blk_ ph.out⟩, ⟨bel_ HB.out⟩⟩
    ·rw [if_neg c8] at H
     have pV := eqf_ c8;have pW := nef_ c8;have H' := Aside0.mk H;clear H;have q3 := po.out;have q4 := pp.out;obtain ⟨q5, q6, q7, q8, q9, ra, rb, rc, rd, re⟩ := blk5 pa.out;obtain ⟨rf, rg, rh, ri, rj, rk, rl, rm, rn, ro⟩ := blk5 ph.out;go_wp2;repeat (go_quiet (fail); try go_wp2)
     go_meet
     case rel => exact ⟨_, (true), sd_, H', ⟨le_⟩, ⟨blk_ pa.out⟩, ⟨blk_ ph.out⟩, ⟨bel_ HB.out⟩⟩
   ·rw [if_neg c7] at H
    have pT := eqf_ c7;have pU := nef_ c7;have H' := Aside0.mk H;clear H;have rp := po.out;have rq := pp.out;obtain ⟨rr, rs, rt, ru, rv, rx, ry, rz, rA, rB⟩ := blk5 pa.out;obtain ⟨rC, rD, rE, rF, rG, rH, rI, rJ, rK, rL⟩ := blk5 ph.out;go_wp2;repeat (go_quiet (fail); try go_wp2)
    go_meet
    case rel => exact ⟨_, (true), sd_, H', ⟨le_⟩, ⟨blk_ pa.out⟩, ⟨blk_ ph.out⟩, ⟨bel_ HB.out⟩⟩
  ·rw [if_neg c6] at H
   have pw := eqf_ c6;have pH := nef_ c6;(first | rw [pw] | rw [pH] | rw [pS] | (simp only [i64_w, i32_w]; rw [pw]) | skip);have H' := Aside0.mk H;clear H;have rM := po.out;have rN := pp.out;obtain ⟨rO, rP, rQ, rR, rS, rT, rU, rV, rW, rX⟩ := blk5 pa.out;obtain ⟨rY, rZ, r0, r1, r2, r3, r4, r5, r6, r7⟩ := blk5 ph.out;go_wp2;repeat (go_quiet (fail); try go_wp2)
   go_meet
   case rel => exact ⟨_, (true), sd_, H', ⟨le_⟩, ⟨blk_ pa.out⟩, ⟨blk_ ph.out⟩, ⟨bel_ HB.out⟩⟩
 case rest =>
  clear HC3;obtain ⟨kq, pG, rfl, HA, HJ2, pa, ph, HB⟩ := hcut;cases kq with
  | zero => exact absurd HA.out (by simp [tollref07_SameAsk.j0])
  | succ kj2 =>
   have H := HA.out;clear HA;simp only [tollref07_SameAsk.j0] at H;by_cases c25 : pG = true
   ·subst c25
    replace H := ift_ H;obtain rfl := Option.some.inj H;go_wp2;repeat (go_quiet (fail); try go_wp2)
    go_ret;exact ⟨fi_, bel_ HB.out⟩
   ·replace c25 := Bool.eq_false_iff.mpr c25
    subst c25;replace H := iff_ H;have H' := Aside0.mk H;clear H;go_wp2;repeat (go_quiet (fail); try go_wp2)
    go_loopg [5] kj2 (fun kq v5 w' => ∃ (pd : Int), v5 = .int .i64 pd ∧ Aside0 (tollref07_SameAsk.l0 kq pd pi pj pk pb pf pl pm pn pc pg = some r) ∧ Aside0 (kq ≤ kj2) ∧ Aside0 (w'.heap[pu]? = some (.cells #[.string pi, .string pj, .string pk, (.slice pq pb.length c0_3), (.slice pr pf.length c0_4)] 33 (0, 0))) ∧ Aside0 (w'.heap[pv]? = some (.cells #[.string pl, .string pm, .string pn, (.slice ps pc.length c1_3), (.slice pt pg.length c1_4)] 33 (0, 0))) ∧ Aside0 (Below w.heap.size w w'))
    case atStart => exact ⟨(0), sd_, H', ⟨Nat.le_refl _⟩, ⟨blk_ pa.out⟩, ⟨blk_ ph.out⟩, ⟨bel_ HB.out⟩⟩
    case round =>
     clear H';try clear c25
     obtain ⟨pd, rfl, HA, HK2, pa, ph, HB⟩ := hrel;cases gk with
     | zero => exact absurd HA.out (by simp [tollref07_SameAsk.l0])
     | succ k2 =>
      have H := HA.out;clear HA;simp only [tollref07_SameAsk.l0] at H;by_cases c26 : pd < (pb.length : Int)
      ·rw [if_pos c26] at H
       have pQ := decide_eq_true c26;clear c26;by_cases c27 : 0 ≤ pd
       ·rw [if_pos c27] at H
        have r8 := decide_eq_true c27;clear c27;by_cases c28 : pd < (pc.length : Int)
        ·rw [if_pos c28] at H
         have r9 := decide_eq_true c28;clear c28;by_cases c29 : (!((((rd_T59 pb pd).f0).toList) == (((rd_T59 pc pd).f0).toList)) || (!((((rd_T59 pb pd).f1).toList) == (((rd_T59 pc pd).f1).toList)))) = true
         ·rw [if_pos c29] at H
          have p0 : (!((((rd_T59 pb pd).f0).toList) == (((rd_T59 pc pd).f0).toList)) || (!((((rd_T59 pb pd).f1).toList) == (((rd_T59 pc pd).f1).toList)))) = true := c29;clear c29;obtain rfl := Option.some.inj H;have za := po.out;have zb := pp.out;obtain ⟨zc, zd, ze, zf, zg, zh, zi, zj, zk, zl⟩ := blk5 pa.out;have p382 : 0 ≤ (pd : Int) := of_decide_eq_true as_;have q382 : pd < (pb.length : Int) := of_decide_eq_true as_;obtain ⟨p1, e382, px, pz⟩ := at_T59 pI.out pd p382 q382;cases e382
          replace px := hbc_ HB px;replace pz := hbc_ HB pz;replace p382 := eq_true p382;replace q382 := eq_true q382;obtain ⟨zm, zn, zo, zp, zq, zr, zs, zt, zu, zv⟩ := blk5 ph.out;have p383 : 0 ≤ (pd : Int) := of_decide_eq_true as_;have q383 : pd < (pc.length : Int) := of_decide_eq_true as_;obtain ⟨p2, e383, pA, pB⟩ := at_T59 pK.out pd p383 q383;cases e383
          replace pA := hbc_ HB pA;replace pB := hbc_ HB pB;replace p383 := eq_true p383;replace q383 := eq_true q383;go_wp2;repeat (go_quiet (fail); try go_wp2)
          go_ret;exact ⟨fi_, bel_ HB.out⟩
         ·rw [if_neg c29] at H
          have p0 : (!((((rd_T59 pb pd).f0).toList) == (((rd_T59 pc pd).f0).toList)) || (!((((rd_T59 pb pd).f1).toList) == (((rd_T59 pc pd).f1).toList)))) = false := by simpa using c29
          clear c29;have H' := Aside0.mk H;clear H;have zw := po.out;have zx := pp.out;obtain ⟨zy, zz, zA, zB, zC, zD, zE, zF, zG, zH⟩ := blk5 pa.out;have p382 : 0 ≤ (pd : Int) := of_decide_eq_true as_;have q382 : pd < (pb.length : Int) := of_decide_eq_true as_;obtain ⟨p1, e382, px, pz⟩ := at_T59 pI.out pd p382 q382;cases e382
          replace px := hbc_ HB px;replace pz := hbc_ HB pz;replace p382 := eq_true p382;replace q382 := eq_true q382;obtain ⟨zI, zJ, zK, zL, zM, zN, zO, zP, zQ, zR⟩ := blk5 ph.out;have p383 : 0 ≤ (pd : Int) := of_decide_eq_true as_;have q383 : pd < (pc.length : Int) := of_decide_eq_true as_;obtain ⟨p2, e383, pA, pB⟩ := at_T59 pK.out pd p383 q383;cases e383
          replace pA := hbc_ HB pA;replace pB := hbc_ HB pB;replace p383 := eq_true p383;replace q383 := eq_true q383;go_wp2;repeat (go_quiet (fail); try go_wp2)
          go_roundg k2
          case measure => have := HJ2.out; have := HK2.out; omega
          case rel => exact ⟨(wrap64 (pd + 1)), sd_, H', ⟨le2_ HJ2.out HK2.out⟩, ⟨blk_ pa.out⟩, ⟨blk_ ph.out⟩, ⟨bel_ HB.out⟩⟩
        ·rw [if_neg c28] at H
         cases H
       ·rw [if_neg c27] at H
        cases H
      ·rw [if_neg c26] at H
       have pQ := decide_eq_false c26;clear c26;have H' := Aside0.mk H;clear H;have zS := po.out;have zT := pp.out;obtain ⟨p3, p4, p5, p6, p7, p8, p9, qa, qb, qc⟩ := blk5 pa.out;go_wp2;repeat (go_quiet (fail); try go_wp2)
       go_loopg [6] k2 (fun kq v6 w' => ∃ (pe : Int), v6 = .int .i64 pe ∧ Aside0 (tollref07_SameAsk.l1 kq pe pi pj pk pb pf pl pm pn pc pg = some r) ∧ Aside0 (kq ≤ k2) ∧ Aside0 (w'.heap[pu]? = some (.cells #[.string pi, .string pj, .string pk, (.slice pq pb.length c0_3), (.slice pr pf.length c0_4)] 33 (0, 0))) ∧ Aside0 (w'.heap[pv]? = some (.cells #[.string pl, .string pm, .string pn, (.slice ps pc.length c1_3), (.slice pt pg.length c1_4)] 33 (0, 0))) ∧ Aside0 (Below w.heap.size w w'))
       case atStart => exact ⟨(0), sd_, H', ⟨Nat.le_refl _⟩, ⟨blk_ pa.out⟩, ⟨blk_ ph.out⟩, ⟨bel_ HB.out⟩⟩
       case round =>
        clear H';try clear c25 pQ p3 p4 p5 p6 p7 p8 p9 qa qb qc
        obtain ⟨pe, rfl, HA, HK3, pa, ph, HB⟩ := hrel;cases gk with
        | zero => exact absurd HA.out (by simp [tollref07_SameAsk.l1])
        | succ k3 =>
         have H := HA.out;clear HA;simp only [tollref07_SameAsk.l1] at H;by_cases c38 : pe < (pf.length : Int)
         ·rw [if_pos c38] at H
          have qd := decide_eq_true c38;clear c38;by_cases c39 : 0 ≤ pe
          ·rw [if_pos c39] at H
           have zU := decide_eq_true c39;clear c39;by_cases c40 : pe < (pg.length : Int)
           ·rw [if_pos c40] at H
            have zV := decide_eq_true c40;clear c40;by_cases c41 : (!((((rd_T59 pf pe).f0).toList) == (((rd_T59 pg pe).f0).toList)) || (!((((rd_T59 pf pe).f1).toList) == (((rd_T59 pg pe).f1).toList)))) = true
            ·rw [if_pos c41] at H
             have qe : (!((((rd_T59 pf pe).f0).toList) == (((rd_T59 pg pe).f0).toList)) || (!((((rd_T59 pf pe).f1).toList) == (((rd_T59 pg pe).f1).toList)))) = true := c41;clear c41;obtain rfl := Option.some.inj H;have zW := po.out;have zX := pp.out;obtain ⟨zY, zZ, z0, z1, z2, z3, z4, z5, z6, z7⟩ := blk5 pa.out;have p384 : 0 ≤ (pe : Int) := of_decide_eq_true as_;have q384 : pe < (pf.length : Int) := of_decide_eq_true as_;obtain ⟨qf, e384, pC, pD⟩ := at_T59 pJ.out pe p384 q384;cases e384
             replace pC := hbc_ HB pC;replace pD := hbc_ HB pD;replace p384 := eq_true p384;replace q384 := eq_true q384;obtain ⟨z8, z9, xa, xb, xc, xd, xe, xf, xg, xh⟩ := blk5 ph.out;have p385 : 0 ≤ (pe : Int) := of_decide_eq_true as_;have q385 : pe < (pg.length : Int) := of_decide_eq_true as_;obtain ⟨qg, e385, pE, pF⟩ := at_T59 pL.out pe p385 q385;cases e385
             replace pE := hbc_ HB pE;replace pF := hbc_ HB pF;replace p385 := eq_true p385;replace q385 := eq_true q385;go_wp2;repeat (go_quiet (fail); try go_wp2)
             go_ret;exact ⟨fi_, bel_ HB.out⟩
            ·rw [if_neg c41] at H
             have qe : (!((((rd_T59 pf pe).f0).toList) == (((rd_T59 pg pe).f0).toList)) || (!((((rd_T59 pf pe).f1).toList) == (((rd_T59 pg pe).f1).toList)))) = false := by simpa using c41
             clear c41;have H' := Aside0.mk H;clear H;have xi := po.out;have xj := pp.out;obtain ⟨xk, xl, xm, xn, xo, xp, xq, xr, xs, xt⟩ := blk5 pa.out;have p384 : 0 ≤ (pe : Int) := of_decide_eq_true as_;have q384 : pe < (pf.length : Int) := of_decide_eq_true as_;obtain ⟨qf, e384, pC, pD⟩ := at_T59 pJ.out pe p384 q384;cases e384
             replace pC := hbc_ HB pC;replace pD := hbc_ HB pD;replace p384 := eq_true p384;replace q384 := eq_true q384;obtain ⟨xu, xv, xw, xx, xy, xz, xA, xB, xC, xD⟩ := blk5 ph.out;have p385 : 0 ≤ (pe : Int) := of_decide_eq_true as_;have q385 : pe < (pg.length : Int) := of_decide_eq_true as_;obtain ⟨qg, e385, pE, pF⟩ := at_T59 pL.out pe p385 q385;cases e385
             replace pE := hbc_ HB pE;replace pF := hbc_ HB pF;replace p385 := eq_true p385;replace q385 := eq_true q385;go_wp2;repeat (go_quiet (fail); try go_wp2)
             go_roundg k3
             case measure => have := HJ2.out; have := HK2.out; have := HK3.out; omega
             case rel => exact ⟨(wrap64 (pe + 1)), sd_, H', ⟨by have := HJ2.out; have := HK2.out; have := HK3.out; omega⟩, ⟨blk_ pa.out⟩, ⟨blk_ ph.out⟩, ⟨bel_ HB.out⟩⟩
           ·rw [if_neg c40] at H
            cases H
          ·rw [if_neg c39] at H
           cases H
         ·rw [if_neg c38] at H
          have qd := decide_eq_false c38;clear c38;obtain rfl := Option.some.inj H;have xE := po.out;have xF := pp.out;obtain ⟨xG, xH, xI, xJ, xK, xL, xM, xN, xO, xP⟩ := blk5 pa.out;go_wp2;repeat (go_quiet (fail); try go_wp2)
          go_ret;exact ⟨fi_, bel_ HB.out⟩

end Go.Proofs.YtfdopmjgiakcdaaGreatDoor.P
