-- written by wip/tool/hprint.py of this repo: the kit's print, with contracts by hand joined; Lean checks it.
import Derived.Test.YtfdopmjgiakcdaaGreatDoorPx0
import Derived.Test.YtfdopmjgiakcdaaGreatDoorPx1
import Derived.Test.YtfdopmjgiakcdaaGreatDoorPx4
import Derived.Test.YtfdopmjgiakcdaaGreatDoorPx5
namespace Go.Proofs.YtfdopmjgiakcdaaGreatDoor.P
open Go.RowKit Go.Proofs.YtfdopmjgiakcdaaGreatDoorW.PrintWords Go.Proofs.YtfdopmjgiakcdaaGreatDoorW.PrintLast Go.Proofs.YtfdopmjgiakcdaaGreatDoorW.PrintMore
attribute [local go_sem] max2_int min2_int max_two min_two max_three min_three max_four min_four   -- for this text's walks alone
set_option linter.unusedVariables false
set_option linter.unusedSimpArgs false

attribute [local go_sem high] eqA26
/-! ### filter_May: function 10 -/
def filter_May.j0 : Nat → Int → Bool → Int → ByteArray → ByteArray → ByteArray → Int → ByteArray → Bool → Int → Option (Bool)
 | 0, _, _, _, _, _, _, _, _, _, _ => none
 | k + 1, x4, x5, x135000, x135001, x135002, x135003, x135004, x135005, x135006, x135007 => if x5 = true then (if (x135003.toList == ([] : List UInt8) && (x135004 == 0 && (x135005.toList == ([] : List UInt8) && (!x135006 && (x135007 == 0))))) = true then ((pairs_Token.f k x135001).bind fun t135 => (if t135 = true then ((pairs_Value.f k x135002).bind fun t136 => (some t136)) else (some false))) else (some false)) else (if x4 = 3 then (if (x135002.toList == ([] : List UInt8) && (x135003.toList == ([] : List UInt8) && (x135004 == 0 && (x135005.toList == ([] : List UInt8) && (!x135006 && (x135007 == 0)))))) = true then ((pairs_Token.f k x135001).bind fun t137 => (some t137)) else (some false)) else (if x4 = 4 then (if x135001.toList = ([] : List UInt8) then (if x135002.toList = ([] : List UInt8) then ((filter_turns.f k x135000 x135001 x135002 x135003 x135004 x135005 x135006 x135007).bind fun t138 => (if t138 = true then (if x135004 ≥ 0 then (if x135004 ≤ 65535 then (if x135007 = 301 then (some true) else (some (x135007 == 302))) else (some false)) else (some false)) else (some false))) else (some false)) else (some false)) else (if x4 = 5 then (if (x135001.toList == ([] : List UInt8) && (x135002.toList == ([] : List UInt8) && (x135004 == 0 && (x135007 == 0)))) = true then ((filter_turns.f k x135000 x135001 x135002 x135003 x135004 x135005 x135006 x135007).bind fun t139 => (if t139 = true then (if x135003.toList = ([] : List UInt8) then (some (x135005.toList != ([] : List UInt8))) else (some true)) else (some false))) else (some false)) else (some false))))
def filter_May.f (k : Nat) (a0_0 : Int) (a0_1 : ByteArray) (a0_2 : ByteArray) (a0_3 : ByteArray) (a0_4 : Int) (a0_5 : ByteArray) (a0_6 : Bool) (a0_7 : Int) : Option (Bool) := if a0_0 = 1 then (filter_May.j0 k a0_0 (a0_0 == 1) a0_0 a0_1 a0_2 a0_3 a0_4 a0_5 a0_6 a0_7) else (filter_May.j0 k a0_0 (a0_0 == 2) a0_0 a0_1 a0_2 a0_3 a0_4 a0_5 a0_6 a0_7)
theorem filter_May.mono_l : ∀ k, (∀ y0 y1 y2 y3 y4 y5 y6 y7 y8 y9, LeO (filter_May.j0 k y0 y1 y2 y3 y4 y5 y6 y7 y8 y9) (filter_May.j0 (k + 1) y0 y1 y2 y3 y4 y5 y6 y7 y8 y9))
 | 0 => fun _ _ _ _ _ _ _ _ _ _ r h => by simp [filter_May.j0] at h
 | k + 1 => by
  have ih0 := filter_May.mono_l k
  ·intro y0 y1 y2 y3 y4 y5 y6 y7 y8 y9
   unfold filter_May.j0
   repeat' with_reducible first | apply ih0 | apply filter_turns.mono | apply pairs_Token.mono | apply pairs_Value.mono | apply LeO.refl | apply LeO.none | apply LeO.ite | refine LeO.bind ?_ fun _ => ?_
theorem filter_May.mono : ∀ a0 a1 a2 a3 a4 a5 a6 a7 k, LeO (filter_May.f k a0 a1 a2 a3 a4 a5 a6 a7) (filter_May.f (k + 1) a0 a1 a2 a3 a4 a5 a6 a7) := by
 intro a0 a1 a2 a3 a4 a5 a6 a7 k
 have ih0 := filter_May.mono_l k
 unfold filter_May.f
 repeat' with_reducible first | apply ih0 | apply filter_turns.mono | apply pairs_Token.mono | apply pairs_Value.mono | apply LeO.refl | apply LeO.none | apply LeO.ite | refine LeO.bind ?_ fun _ => ?_
set_option maxHeartbeats 8000000 in
set_option maxRecDepth 100000 in
theorem filter_May.calls (k : Nat) (pi : Int) (pj : ByteArray) (pe : ByteArray) (pf : ByteArray) (pc : Int) (pg : ByteArray) (ph : Bool) (pd : Int) (r : Bool) (w : World) (h : filter_May.f k pi pj pe pf pc pg ph pd = some r) :
  Calls Tryz.prog 10 #[.agg #[.int .i64 pi, .string pj, .string pe, .string pf, .int .i64 pc, .string pg, .bool ph, .int .i64 pd]] w fun e w' => e = .returned (.bool r) ∧ Below w.heap.size w w' := by
 have hu26 := Tryz.underlying26;have HB := am_ (Below.refl w.heap.size w);have H : (if pi = 1 then (filter_May.j0 k pi (pi == 1) pi pj pe pf pc pg ph pd) else (filter_May.j0 k pi (pi == 2) pi pj pe pf pc pg ph pd)) = some r := h;clear h;have HC2 := Aside0.mk H;clear H;go_enter Tryz.func10, Tryz.ntmps10;go_upto_if 5 with (first | ((with_reducible refine gate_dst (N := 1) rfl ?_); refine box_event ?hg (N := 1) ?hd (cs := #[.int .i64 pi, .string pj, .string pe, .string pf, .int .i64 pc, .string pg, .bool ph, .int .i64 pd]) (t := 26) ?hr ?_; (case hd => rfl); (case hg => rfl); (case hr => first | (go_simp; done) | (go_simp; rfl)); intro pn hg w3 hbox hb; have pa := am_ (hbox); have qb := sz_ HB hg; have qc := sz_ HB hg; replace HB := bs_ HB hb; clear hb hbox hg; obtain ⟨po, pp, pq, pr, ps, pt, pu, pv, pw, px, pz, pA, pB, pC, pD, pE⟩ := blk8 pa.out))
 (try simp only [Act.put, List.setIfInBounds_toArray, List.set_cons_zero, List.set_cons_succ]);go_cut [5] (fun v5 wc => ∃ (kq : Nat) (pl : Bool), v5 = .bool pl ∧ Aside0 (filter_May.j0 kq pi pl pi pj pe pf pc pg ph pd = some r) ∧ Aside0 (kq ≤ k) ∧ Aside0 (wc.heap[pn]? = some (.cells #[.int .i64 pi, .string pj, .string pe, .string pf, .int .i64 pc, .string pg, .bool ph, .int .i64 pd] 26 (0, 0))) ∧ Aside0 (Below w.heap.size w wc))
 case first =>
  have H := HC2.out;clear HC2;by_cases c5 : pi = 1
  ·rw [if_pos c5] at H
   have pk := eqb_ c5;have pm := neb_ c5;clear c5;(first | rw [pk] | rw [pm] | rw [pF] | (simp only [i64_w, i32_w]; rw [pk]) | skip);have H' := Aside0.mk H;clear H;go_wp2;go_meet
   case rel => exact ⟨_, ((pi == 1)), sd_, H', ⟨le_⟩, ⟨blk_ pa.out⟩, ⟨bel_ HB.out⟩⟩
  ·rw [if_neg c5] at H
   have pk := eqf_ c5;have pm := nef_ c5;(first | rw [pk] | rw [pm] | rw [pF] | (simp only [i64_w, i32_w]; rw [pk]) | skip);have H' := Aside0.mk H;clear H;go_wp2;go_meet
   case rel => exact ⟨_, ((pi == 2)), sd_, H', ⟨le_⟩, ⟨blk_ pa.out⟩, ⟨bel_ HB.out⟩⟩
 case rest =>
  clear HC2;try clear po pp pq pr ps pt pu pv pw px pz pA pB pC pD pE
  obtain ⟨kq, pl, rfl, HA, HJ1, pa, HB⟩ := hcut;cases kq with
  | zero => exact absurd HA.out (by simp [filter_May.j0])
  | succ kj1 =>
   have H := HA.out;clear HA;simp only [filter_May.j0] at H;by_cases c6 : pl = true
   ·subst c6
    replace H := ift_ H;by_cases c7 : (pf.toList == ([] : List UInt8) && (pc == 0 && (pg.toList == ([] : List UInt8) && (!ph && (pd == 0))))) = true
    ·rw [if_pos c7] at H
     (try (have c7k := c7; simp only [Bool.and_eq_true, beq_iff_eq, Bool.not_eq_true'] at c7k; have c7l := eq_true c7k; clear c7k)); (try (have c7m := c7; simp only [beq_nil_isEmpty] at c7m));have pG : (pf.toList == ([] : List UInt8) && (pc == 0 && (pg.toList == ([] : List UInt8) && (!ph && (pd == 0))))) = true := c7;(try (have pH : decide (pf.toList = ([] : List UInt8) && (pc == 0 && (pg.toList == ([] : List UInt8) && (!ph && (pd == 0))))) = true := by simpa using c7));(try (have pI : (pf.toList == ([] : List UInt8) && (pc == 0 && (pg.toList == ([] : List UInt8) && (!ph && (pd == 0))))) = true := by simpa using c7));clear c7;obtain ⟨pJ, A8, H⟩ := bnd_ H;by_cases c9 : pJ = true
     ·subst c9
      replace H := ift_ H;obtain ⟨pK, A10, H⟩ := bnd_ H;obtain rfl := Option.some.inj H;obtain ⟨qd, qe, qf, qg, qh, qi, qj, qk, ql, qm, qn, qo, qp, qq, qr, qs⟩ := blk8 pa.out;go_wp2_with (first | (go_at_call 28; (with_reducible refine (pairs_Token.calls kj1 pj true _ A8.out).mono ?_); rintro e w' ⟨rfl, ⟨nd, rfl⟩⟩) | (go_at_call 29; (with_reducible refine (pairs_Value.calls kj1 pe pK _ A10.out).mono ?_); rintro e w12 ⟨rfl, hb⟩; replace pa := bb_ pa hb; replace HB := bs_ HB hb; (try clear hb)));go_ret;exact ⟨fi_, bel_ HB.out⟩
     ·replace c9 := Bool.eq_false_iff.mpr c9
      subst c9;replace H := iff_ H;obtain rfl := Option.some.inj H;obtain ⟨qt, qu, qv, qw, qx, qy, qz, qA, qB, qC, qD, qE, qF, qG, qH, qI⟩ := blk8 pa.out;go_wp2_with (first | (go_at_call 28; (with_reducible refine (pairs_Token.calls kj1 pj false _ A8.out).mono ?_); rintro e w' ⟨rfl, ⟨nd, rfl⟩⟩));go_ret;exact ⟨fi_, bel_ HB.out⟩
    ·rw [if_neg c7] at H
     (try (have c7k := c7; simp only [Bool.and_eq_true, beq_iff_eq, Bool.not_eq_true'] at c7k; have c7l := eq_false c7k; clear c7k)); (try (have c7m := c7; simp only [beq_nil_isEmpty] at c7m));have pG : (pf.toList == ([] : List UInt8) && (pc == 0 && (pg.toList == ([] : List UInt8) && (!ph && (pd == 0))))) = false := by simpa using c7
     (try (have pH : decide (pf.toList = ([] : List UInt8) && (pc == 0 && (pg.toList == ([] : List UInt8) && (!ph && (pd == 0))))) = false := by simpa using c7));(try (have pI : (pf.toList == ([] : List UInt8) && (pc == 0 && (pg.toList == ([] : List UInt8) && (!ph && (pd == 0))))) = false := by simpa using c7));(try (have qJ : ¬ (pf.toList = ([] : List UInt8) && (pc == 0 && (pg.toList == ([] : List UInt8) && (!ph && (pd == 0))))) := by simpa using c7));clear c7;obtain rfl := Option.some.inj H;obtain ⟨qK, qL, qM, qN, qO, qP, qQ, qR, qS, qT, qU, qV, qW, qX, qY, qZ⟩ := blk8 pa.out;go_wp2;go_ret;exact ⟨fi_, bel_ HB.out⟩
   ·replace c6 := Bool.eq_false_iff.mpr c6
    subst c6;replace H := iff_ H;by_cases c15 : pi = 3
    ·rw [if_pos c15] at H
     have pL := eqb_ c15;have pM := neb_ c15;clear c15;by_cases c16 : (pe.toList == ([] : List UInt8) && (pf.toList == ([] : List UInt8) && (pc == 0 && (pg.toList == ([] : List UInt8) && (!ph && (pd == 0)))))) = true
     ·rw [if_pos c16] at H
      (try (have c16k := c16; simp only [Bool.and_eq_true, beq_iff_eq, Bool.not_eq_true'] at c16k; have c16l := eq_true c16k; clear c16k)); (try (have c16m := c16; simp only [beq_nil_isEmpty] at c16m));have pN : (pe.toList == ([] : List UInt8) && (pf.toList == ([] : List UInt8) && (pc == 0 && (pg.toList == ([] : List UInt8) && (!ph && (pd == 0)))))) = true := c16;(try (have pO : decide (pe.toList = ([] : List UInt8) && (pf.toList == ([] : List UInt8) && (pc == 0 && (pg.toList == ([] : List UInt8) && (!ph && (pd == 0)))))) = true := by simpa using c16));(try (have pP : (pe.toList == ([] : List UInt8) && (pf.toList == ([] : List UInt8) && (pc == 0 && (pg.toList == ([] : List UInt8) && (!ph && (pd == 0)))))) = true := by simpa using c16));clear c16;obtain ⟨pQ, A17, H⟩ := bnd_ H;obtain rfl := Option.some.inj H;obtain ⟨q0, q4, q5, q6, q7, q8, q9, ra, rb, rc, rd, re, rf, rg, rh, ri⟩ := blk8 pa.out;go_wp2_with (first | (go_at_call 28; (with_reducible refine (pairs_Token.calls kj1 pj pQ _ A17.out).mono ?_); rintro e w' ⟨rfl, ⟨nd, rfl⟩⟩));go_ret;exact ⟨fi_, bel_ HB.out⟩
     ·rw [if_neg c16] at H
      (try (have c16k := c16; simp only [Bool.and_eq_true, beq_iff_eq, Bool.not_eq_true'] at c16k; have c16l := eq_false c16k; clear c16k)); (try (have c16m := c16; simp only [beq_nil_isEmpty] at c16m));have pN : (pe.toList == ([] : List UInt8) && (pf.toList == ([] : List UInt8) && (pc == 0 && (pg.toList == ([] : List UInt8) && (!ph && (pd == 0)))))) = false := by simpa using c16
      (try (have pO : decide (pe.toList = ([] : List UInt8) && (pf.toList == ([] : List UInt8) && (pc == 0 && (pg.toList == ([] : List UInt8) && (!ph && (pd == 0)))))) = false := by simpa using c16));(try (have pP : (pe.toList == ([] : List UInt8) && (pf.toList == ([] : List UInt8) && (pc == 0 && (pg.toList == ([] : List UInt8) && (!ph && (pd == 0)))))) = false := by simpa using c16));(try (have rj : ¬ (pe.toList = ([] : List UInt8) && (pf.toList == ([] : List UInt8) && (pc == 0 && (pg.toList == ([] : List UInt8) && (!ph && (pd == 0)))))) := by simpa using c16));clear c16;obtain rfl := Option.some.inj H;obtain ⟨rk, rl, rm, rn, ro, rp, rq, rs, rt, ru, rv, rx, ry, rz, rA, rB⟩ := blk8 pa.out;go_wp2;go_ret;exact ⟨fi_, bel_ HB.out⟩
    ·rw [if_neg c15] at H
     have pL := eqf_ c15;have pM := nef_ c15;by_cases c20 : pi = 4
     ·rw [if_pos c20] at H
      have pR := eqb_ c20;have pS := neb_ c20;clear c20;by_cases c21 : pj.toList = ([] : List UInt8)
      ·rw [if_pos c21] at H
       have pT := eqb_ c21;have pU := neb_ c21;clear c21;by_cases c22 : pe.toList = ([] : List UInt8)
       ·rw [if_pos c22] at H
        have pV := eqb_ c22;have pW := neb_ c22;clear c22;obtain ⟨pX, A23, H⟩ := bnd_ H;by_cases c24 : pX = true
        ·subst c24
         replace H := ift_ H;by_cases c25 : pc ≥ 0
         ·rw [if_pos c25] at H
          have pY := decide_eq_true c25;clear c25;by_cases c26 : pc ≤ 65535
          ·rw [if_pos c26] at H
           have pZ := decide_eq_true c26;clear c26;by_cases c27 : pd = 301
           ·rw [if_pos c27] at H
            have p0 := eqb_ c27;have p2 := neb_ c27;clear c27;obtain rfl := Option.some.inj H;obtain ⟨rC, rD, rE, rF, rG, rH, rI, rJ, rK, rL, rM, rN, rO, rP, rQ, rR⟩ := blk8 pa.out;go_wp2_with (first | (go_at_call 30; (with_reducible refine (filter_turns.calls kj1 pi pj pe pf pc pg ph pd true _ A23.out).mono ?_); rintro e w29 ⟨rfl, hb⟩; replace pa := bb_ pa hb; replace HB := bs_ HB hb; (try clear hb); obtain ⟨rS, rT, rU, rV, rW, rX, rY, rZ, r0, r1, r2, r3, r4, r5, r6, r7⟩ := blk8 pa.out));go_ret;exact ⟨fi_, bel_ HB.out⟩
           ·rw [if_neg c27] at H
            have p0 := eqf_ c27;have p2 := nef_ c27;obtain rfl := Option.some.inj H;obtain ⟨r8, r9, za, zb, zc, zd, ze, zf, zg, zh, zi, zj, zk, zl, zm, zn⟩ := blk8 pa.out;go_wp2_with (first | (go_at_call 30; (with_reducible refine (filter_turns.calls kj1 pi pj pe pf pc pg ph pd true _ A23.out).mono ?_); rintro e w32 ⟨rfl, hb⟩; replace pa := bb_ pa hb; replace HB := bs_ HB hb; (try clear hb); obtain ⟨zo, zp, zq, zr, zs, zt, zu, zv, zw, zx, zy, zz, zA, zB, zC, zD⟩ := blk8 pa.out));go_ret;exact ⟨fi_, bel_ HB.out⟩
          ·rw [if_neg c26] at H
           have pZ := decide_eq_false c26;clear c26;obtain rfl := Option.some.inj H;obtain ⟨zE, zF, zG, zH, zI, zJ, zK, zL, zM, zN, zO, zP, zQ, zR, zS, zT⟩ := blk8 pa.out;go_wp2_with (first | (go_at_call 30; (with_reducible refine (filter_turns.calls kj1 pi pj pe pf pc pg ph pd true _ A23.out).mono ?_); rintro e w35 ⟨rfl, hb⟩; replace pa := bb_ pa hb; replace HB := bs_ HB hb; (try clear hb); obtain ⟨zU, zV, zW, zX, zY, zZ, z0, z1, z2, z3, z4, z5, z6, z7, z8, z9⟩ := blk8 pa.out));go_ret;exact ⟨fi_, bel_ HB.out⟩
         ·rw [if_neg c25] at H
          have pY := decide_eq_false c25;clear c25;obtain rfl := Option.some.inj H;obtain ⟨xa, xb, xc, xd, xe, xf, xg, xh, xi, xj, xk, xl, xm, xn, xo, xp⟩ := blk8 pa.out;go_wp2_with (first | (go_at_call 30; (with_reducible refine (filter_turns.calls kj1 pi pj pe pf pc pg ph pd true _ A23.out).mono ?_); rintro e w38 ⟨rfl, hb⟩; replace pa := bb_ pa hb; replace HB := bs_ HB hb; (try clear hb); obtain ⟨xq, xr, xt, xu, xv, xw, xx, xy, xz, xA, xB, xC, xD, xE, xF, xG⟩ := blk8 pa.out));go_ret;exact ⟨fi_, bel_ HB.out⟩
        ·replace c24 := Bool.eq_false_iff.mpr c24
         subst c24;replace H := iff_ H;obtain rfl := Option.some.inj H;obtain ⟨xH, xI, xJ, xK, xL, xM, xN, xO, xP, xQ, xR, xS, xT, xU, xV, xW⟩ := blk8 pa.out;go_wp2_with (first | (go_at_call 30; (with_reducible refine (filter_turns.calls kj1 pi pj pe pf pc pg ph pd false _ A23.out).mono ?_); rintro e w41 ⟨rfl, hb⟩; replace pa := bb_ pa hb; replace HB := bs_ HB hb; (try clear hb)));go_ret;exact ⟨fi_, bel_ HB.out⟩
       ·rw [if_neg c22] at H
        have pV := eqf_ c22;have pW := nef_ c22;obtain rfl := Option.some.inj H;obtain ⟨xX, xY, xZ, x0, x2, x3, x6, x7, x8, x9, ga, gc, gd, ge, gf, gh⟩ := blk8 pa.out;go_wp2;go_ret;exact ⟨fi_, bel_ HB.out⟩
      ·rw [if_neg c21] at H
       have pT := eqf_ c21;have pU := nef_ c21;obtain rfl := Option.some.inj H;obtain ⟨gi, gj, gk, gl, gm, gn, gp, gq, gr, gs, gt, gu, gv, gw, gx, gy⟩ := blk8 pa.out;go_wp2;go_ret;exact ⟨fi_, bel_ HB.out⟩
     ·rw [if_neg c20] at H
      have pR := eqf_ c20;have pS := nef_ c20;by_cases c44 : pi = 5
      ·rw [if_pos c44] at H
       have p3 := eqb_ c44;have p4 := neb_ c44;clear c44;by_cases c45 : (pj.toList == ([] : List UInt8) && (pe.toList == ([] : List UInt8) && (pc == 0 && (pd == 0)))) = true
       ·rw [if_pos c45] at H
        (try (have c45k := c45; simp only [Bool.and_eq_true, beq_iff_eq, Bool.not_eq_true'] at c45k; have c45l := eq_true c45k; clear c45k)); (try (have c45m := c45; simp only [beq_nil_isEmpty] at c45m));have p5 : (pj.toList == ([] : List UInt8) && (pe.toList == ([] : List UInt8) && (pc == 0 && (pd == 0)))) = true := c45;(try (have p6 : decide (pj.toList = ([] : List UInt8) && (pe.toList == ([] : List UInt8) && (pc == 0 && (pd == 0)))) = true := by simpa using c45));(try (have p7 : (pj.toList == ([] : List UInt8) && (pe.toList == ([] : List UInt8) && (pc == 0 && (pd == 0)))) = true := by simpa using c45));clear c45;obtain ⟨p8, A46, H⟩ := bnd_ H;by_cases c47 : p8 = true
        ·subst c47
         replace H := ift_ H;by_cases c48 : pf.toList = ([] : List UInt8)
         ·rw [if_pos c48] at H
          have p9 := eqb_ c48;have qa := neb_ c48;clear c48;obtain rfl := Option.some.inj H;obtain ⟨gz, gA, gB, gC, gD, gE, gF, gG, gH, gI, gJ, gK, gL, gM, gN, gO⟩ := blk8 pa.out;go_wp2_with (first | (go_at_call 30; (with_reducible refine (filter_turns.calls kj1 pi pj pe pf pc pg ph pd true _ A46.out).mono ?_); rintro e w50 ⟨rfl, hb⟩; replace pa := bb_ pa hb; replace HB := bs_ HB hb; (try clear hb); obtain ⟨gP, gQ, gR, gS, gT, gU, gV, gW, gX, gY, gZ, g0, g1, g2, g3, g4⟩ := blk8 pa.out));go_ret;exact ⟨fi_, bel_ HB.out⟩
         ·rw [if_neg c48] at H
          have p9 := eqf_ c48;have qa := nef_ c48;obtain rfl := Option.some.inj H;obtain ⟨g5, g6, g7, g8, g9, da, db, dc, dd, de, df, dg, dh, di, dj, dk⟩ := blk8 pa.out;go_wp2_with (first | (go_at_call 30; (with_reducible refine (filter_turns.calls kj1 pi pj pe pf pc pg ph pd true _ A46.out).mono ?_); rintro e w53 ⟨rfl, hb⟩; replace pa := bb_ pa hb; replace HB := bs_ HB hb; (try clear hb); obtain ⟨dl, dm, dn, dp, dq, dr, ds, dt, du, dv, dw, dx, dy, dz, dA, dB⟩ := blk8 pa.out));go_ret;exact ⟨fi_, bel_ HB.out⟩
        ·replace c47 := Bool.eq_false_iff.mpr c47
         subst c47;replace H := iff_ H;obtain rfl := Option.some.inj H;obtain ⟨dC, dD, dE, dF, dG, dH, dI, dJ, dK, dL, dM, dN, dO, dP, dQ, dR⟩ := blk8 pa.out;go_wp2_with (first | (go_at_call 30; (with_reducible refine (filter_turns.calls kj1 pi pj pe pf pc pg ph pd false _ A46.out).mono ?_); rintro e w56 ⟨rfl, hb⟩; replace pa := bb_ pa hb; replace HB := bs_ HB hb; (try clear hb)));go_ret;exact ⟨fi_, bel_ HB.out⟩
       ·rw [if_neg c45] at H
        (try (have c45k := c45; simp only [Bool.and_eq_true, beq_iff_eq, Bool.not_eq_true'] at c45k; have c45l := eq_false c45k; clear c45k)); (try (have c45m := c45; simp only [beq_nil_isEmpty] at c45m));have p5 : (pj.toList == ([] : List UInt8) && (pe.toList == ([] : List UInt8) && (pc == 0 && (pd == 0)))) = false := by simpa using c45
        (try (have p6 : decide (pj.toList = ([] : List UInt8) && (pe.toList == ([] : List UInt8) && (pc == 0 && (pd == 0)))) = false := by simpa using c45));(try (have p7 : (pj.toList == ([] : List UInt8) && (pe.toList == ([] : List UInt8) && (pc == 0 && (pd == 0)))) = false := by simpa using c45));(try (have dS : ¬ (pj.toList = ([] : List UInt8) && (pe.toList == ([] : List UInt8) && (pc == 0 && (pd == 0)))) := by simpa using c45));clear c45;obtain rfl := Option.some.inj H;obtain ⟨dT, dU, dV, dW, dX, dY, dZ, d0, d1, d2, d3, d4, d5, d6, d7, d8⟩ := blk8 pa.out;go_wp2;go_ret;exact ⟨fi_, bel_ HB.out⟩
      ·rw [if_neg c44] at H
       have p3 := eqf_ c44;have p4 := nef_ c44;obtain rfl := Option.some.inj H;go_wp2;go_ret;exact ⟨fi_, bel_ HB.out⟩

/-! ### filter_turner: function 35 -/
def filter_turner.f (a0_0 : Int) (a0_1 : ByteArray) (a0_2 : ByteArray) (a0_3 : ByteArray) (a0_4 : Int) (a0_5 : ByteArray) (a0_6 : Bool) (a0_7 : Int) : Option (Bool) := if a0_0 = 4 then (some true) else (some (a0_0 == 5))
set_option maxHeartbeats 8000000 in
set_option maxRecDepth 100000 in
theorem filter_turner.calls (pa : Int) (pc : ByteArray) (pd : ByteArray) (pe : ByteArray) (pf : Int) (pg : ByteArray) (ph : Bool) (pi : Int) (r : Bool) (w : World) (h : filter_turner.f pa pc pd pe pf pg ph pi = some r) :
  Calls Tryz.prog 35 #[.agg #[.int .i64 pa, .string pc, .string pd, .string pe, .int .i64 pf, .string pg, .bool ph, .int .i64 pi]] w fun e w' => e = .returned (.bool r) ∧ Below w.heap.size w w' := by
 have hu26 := Tryz.underlying26;have HB := am_ (Below.refl w.heap.size w);have H : (if pa = 4 then (some true) else (some (pa == 5))) = some r := h;clear h;by_cases c2 : pa = 4
 ·rw [if_pos c2] at H
  have pk := eqb_ c2;have pl := neb_ c2;clear c2;obtain rfl := Option.some.inj H;go_enter Tryz.func35, Tryz.ntmps35;go_wp2_with (first | ((with_reducible refine gate_dst (N := 1) rfl ?_); refine box_event ?hg (N := 1) ?hd (cs := #[.int .i64 pa, .string pc, .string pd, .string pe, .int .i64 pf, .string pg, .bool ph, .int .i64 pi]) (t := 26) ?hr ?_; (case hd => rfl); (case hg => rfl); (case hr => first | (go_simp; done) | (go_simp; rfl)); intro pm hg w3 hbox hb; have pj := am_ (hbox); have pn := sz_ HB hg; have po := sz_ HB hg; replace HB := bs_ HB hb; clear hb hbox hg; obtain ⟨pp, pq, pr, ps, pt, pu, pv, pw, px, pz, pA, pB, pC, pD, pE, pF⟩ := blk8 pj.out));go_ret;exact ⟨fi_, bel_ HB.out⟩
 ·rw [if_neg c2] at H
  have pk := eqf_ c2;have pl := nef_ c2;obtain rfl := Option.some.inj H;go_enter Tryz.func35, Tryz.ntmps35;go_wp2_with (first | ((with_reducible refine gate_dst (N := 1) rfl ?_); refine box_event ?hg (N := 1) ?hd (cs := #[.int .i64 pa, .string pc, .string pd, .string pe, .int .i64 pf, .string pg, .bool ph, .int .i64 pi]) (t := 26) ?hr ?_; (case hd => rfl); (case hg => rfl); (case hr => first | (go_simp; done) | (go_simp; rfl)); intro pm hg w5 hbox hb; have pj := am_ (hbox); have pn := sz_ HB hg; have po := sz_ HB hg; replace HB := bs_ HB hb; clear hb hbox hg; obtain ⟨pG, pH, pI, pJ, pK, pL, pM, pN, pO, pP, pQ, pR, pS, pT, pU, pV⟩ := blk8 pj.out));go_ret;exact ⟨fi_, bel_ HB.out⟩

/-! ### dns_Fold: function 59 -/
def dns_Fold.b (c : UInt8) : UInt8 := if 65 ≤ c.toNat ∧ c.toNat ≤ 90 then UInt8.ofNat (c.toNat + 32) else c
def dns_Fold.f (a0 : ByteArray) : Option (ByteArray) := if a0.size ≤ 9223372036854775807 then some ⟨(a0.data.toList.map dns_Fold.b).toArray⟩ else none
/-- The octets as numbers, the first k of them folded. -/
def dns_Fold.at_ (s : ByteArray) (k j : Nat) : Int := if j < k then ((dns_Fold.b (s.data.toList.getD j 0)).toNat : Int) else ((s.data.toList.getD j 0).toNat : Int)
theorem dns_Fold.bits_or (c : Int) (h0 : 65 ≤ c) (h1 : c ≤ 90) : Go.bits .or .u8 c 32 = c + 32 := by
 have h : ∀ n : Fin 26, Go.bits .or .u8 (65 + (n.val : Int)) 32 = 97 + (n.val : Int) := by decide
 have := h ⟨(c - 65).toNat, by omega⟩
 simp only [Int.toNat_of_nonneg (show 0 ≤ c - 65 by omega)] at this
 rw [show (65 : Int) + (c - 65) = c by omega, show (97 : Int) + (c - 65) = c + 32 by omega] at this
 exact this
theorem dns_Fold.in_ (c : UInt8) (h0 : 65 ≤ c.toNat) (h1 : c.toNat ≤ 90) : ((dns_Fold.b c).toNat : Int) = (c.toNat : Int) + 32 := by
 unfold dns_Fold.b
 rw [if_pos ⟨h0, h1⟩, UInt8.toNat_ofNat']
 omega
theorem dns_Fold.out_ (c : UInt8) (h : ¬ (65 ≤ c.toNat ∧ c.toNat ≤ 90)) : dns_Fold.b c = c := by
 unfold dns_Fold.b
 rw [if_neg h]
theorem dns_Fold.frozen_ (w : World) (e : TypeId) (s : ByteArray) (j : Nat) (hj : j < s.size) : (Lib.bytesWorld w e s).frozen? ⟨w.heap.size, j, none⟩ = false := by
 have h := Lib.bytesWorld_at_new w e s
 have hl : s.size ≤ (Lib.bytesCells w e s).size := by
  have hd : s.data.size = s.size := rfl
  simp [Lib.bytesCells] <;> omega
 simp [World.frozen?, h]
 try omega
theorem dns_Fold.below_ (w : World) (e : TypeId) (s : ByteArray) : Below w.heap.size w (Lib.bytesWorld w e s) :=
 ⟨rfl, rfl, rfl, by rw [Lib.bytesWorld_size]; omega, fun i hi => Lib.bytesWorld_at_old w e s i hi⟩
set_option maxHeartbeats 8000000 in
set_option maxRecDepth 100000 in
theorem dns_Fold.calls (a0 : ByteArray) (r : ByteArray) (w : World) (h : dns_Fold.f a0 = some r) :
  Calls Tryz.prog 59 #[.string a0] w fun e w' => e = .returned (.string r) ∧ Below w.heap.size w w' := by
 have hmx : a0.size ≤ 9223372036854775807 := by
  by_cases hx : a0.size ≤ 9223372036854775807
  ·exact hx
  ·rw [dns_Fold.f, if_neg hx] at h; cases h
 rw [dns_Fold.f, if_pos hmx] at h;have H := Aside0.mk h;clear h;have hcv := fun (W : World) => Lib.run_convert_string_bytes (P := Tryz.prog) W 9 87 5 a0 Tryz.underlying9 Tryz.underlying87 Tryz.underlying5
 have hsz : a0.data.toList.length = a0.size := data_length a0;have HSZ := Aside0.mk hsz;clear hsz;go_enter Tryz.func59, Tryz.ntmps59;go_wp2;clear hcv;have hc0 := am_ (fun j (hj : j < a0.size) => Lib.bytesWorld_cell w 5 a0 j hj);have hf0 := am_ (fun j (hj : j < a0.size) => dns_Fold.frozen_ w 5 a0 j hj);have hb0 := am_ (dns_Fold.below_ w 5 a0);generalize Lib.bytesWorld w 5 a0 = W1 at hc0 hf0 hb0 ⊢;generalize grownCap w a0.size 0 5 = cp;go_loopw [10] (fun i wr => ∃ k : Nat, k ≤ a0.size ∧ i = .int .i64 k ∧ Aside0 (Below w.heap.size w wr) ∧ Aside0 (∀ j, j < a0.size → wr.cell? ⟨w.heap.size, j, none⟩ = some (.int .u8 (dns_Fold.at_ a0 k j))) ∧ Aside0 (∀ j, j < a0.size → wr.frozen? ⟨w.heap.size, j, none⟩ = false)) (fun i _ => a0.size - (intOf i).toNat)
 case atStart => exact ⟨0, Nat.zero_le _, rfl, hb0, ⟨fun j hj => by rw [hc0.out j hj]; unfold dns_Fold.at_; rw [if_neg (by omega)]⟩, hf0⟩
 case round =>
  clear hb0 hc0 hf0;obtain ⟨k, hk, rfl, hb, hc, hf⟩ := hrel;by_cases hlt : k < a0.size
  ·have hck := hc.out k hlt
   have hfk := hf.out k hlt;have hwb := hb.out.size;have hat : dns_Fold.at_ a0 k k = ((a0.data.toList.getD k 0).toNat : Int) := by unfold dns_Fold.at_; rw [if_neg (by omega)]
   rw [hat] at hck;clear hat;have hn := (a0.data.toList.getD k 0).toNat_lt;have hst : ∀ j, j ≠ k → dns_Fold.at_ a0 (k + 1) j = dns_Fold.at_ a0 k j := by
    intro j hj;unfold dns_Fold.at_;by_cases h1 : j < k
    ·rw [if_pos h1, if_pos (by omega)]
    ·rw [if_neg h1, if_neg (by omega)]
   have HST := Aside0.mk hst;have hsk : dns_Fold.at_ a0 (k + 1) k = ((dns_Fold.b (a0.data.toList.getD k 0)).toNat : Int) := by unfold dns_Fold.at_; rw [if_pos (by omega)]
   have HSK := Aside0.mk hsk;clear hst hsk;have hltz : (k : Int) < (a0.size : Int) := by omega
   have HIN := am_ (dns_Fold.in_ (a0.data.toList.getD k 0));have HOUT := am_ (dns_Fold.out_ (a0.data.toList.getD k 0));generalize a0.data.toList.getD k 0 = c at hck hn HSK HIN HOUT;by_cases h1 : 65 ≤ c.toNat
   ·have b1 : decide (65 ≤ (c.toNat : Int)) = true := decide_eq_true (by omega)
    by_cases h2 : c.toNat ≤ 90
    ·have b2 : decide ((c.toNat : Int) ≤ 90) = true := decide_eq_true (by omega)
     have hor := dns_Fold.bits_or (c.toNat : Int) (by omega) (by omega);rw [HIN.out h1 h2] at HSK;clear HIN HOUT h1 h2;go_wp2;go_roundw
     case rel =>
      refine ⟨k + 1, by omega, by go_num, ⟨hb.out.setCell (p := ⟨w.heap.size, k, none⟩) (Nat.le_refl _) _⟩, ⟨fun j hj => ?_⟩, ⟨fun j hj => by rw [World.frozen?_setCell]; exact hf.out j hj⟩⟩;by_cases hjk : j = k
      ·subst hjk
       rw [HSK.out];exact World.cell?_setCell_same _ _ _ (hc.out j hj)
      ·rw [HST.out j hjk, World.cell?_setCell_other _ _ _ _ (by intro h; injection h with _ h _; exact hjk h.symm)]
       exact hc.out j hj
     case measure => simp [intOf]; omega
    ·have b2 : decide ((c.toNat : Int) ≤ 90) = false := decide_eq_false (by omega)
     rw [HOUT.out (by omega)] at HSK;clear HIN HOUT h1 h2;go_wp2;go_roundw
     case rel =>
      refine ⟨k + 1, by omega, by go_num, hb, ⟨fun j hj => ?_⟩, hf⟩;by_cases hjk : j = k
      ·subst hjk
       rw [HSK.out];exact hck
      ·rw [HST.out j hjk]; exact hc.out j hj
     case measure => simp [intOf]; omega
   ·have b1 : decide (65 ≤ (c.toNat : Int)) = false := decide_eq_false (by omega)
    rw [HOUT.out (by omega)] at HSK;clear HIN HOUT h1;go_wp2;go_roundw
    case rel =>
     refine ⟨k + 1, by omega, by go_num, hb, ⟨fun j hj => ?_⟩, hf⟩;by_cases hjk : j = k
     ·subst hjk
      rw [HSK.out];exact hck
     ·rw [HST.out j hjk]; exact hc.out j hj
    case measure => simp [intOf]; omega
  ·have hge : decide ((k : Int) < (a0.size : Int)) = false := decide_eq_false (by omega)
   obtain rfl : k = a0.size := by omega
   have hcv := fun dst hd => run_convert_bytes_arg (P := Tryz.prog) wr 87 5 Tryz.underlying87 Tryz.underlying5 w.heap.size 0 a0.size cp (a0.data.toList.map fun b => ((dns_Fold.b b).toNat : Int)) (by rw [List.length_map]; exact HSZ.out) (fun i hi => by
    rw [Nat.zero_add, hc.out i hi];unfold dns_Fold.at_;rw [if_pos hi];have hl : i < a0.data.toList.length := by rw [HSZ.out]; exact hi
    simp [List.getD, List.getElem?_eq_getElem hl]) dst hd
   have hcv2 := hcv 9 Tryz.underlying9;clear hcv;have hr : r = strOfNums (a0.data.toList.map fun b => ((dns_Fold.b b).toNat : Int)) := by
    have h := Option.some.inj H.out;rw [← h];unfold strOfNums;congr 2;rw [List.map_map];refine List.map_congr_left fun b _ => ?_
    simp
   have HR := Aside0.mk hr;clear hr H;generalize strOfNums (a0.data.toList.map fun b => ((dns_Fold.b b).toNat : Int)) = rr at hcv2 HR;obtain rfl := HR.out;clear HR;go_wp2;go_ret;exact ⟨rfl, hb.out⟩

/-! ### pairs_Same: function 36 -/
def pairs_Same.f (a0 : ByteArray) (a1 : ByteArray) : Option (Bool) := (dns_Fold.f a0).bind fun t165 => ((dns_Fold.f a1).bind fun t166 => (some (t165.toList == t166.toList)))
set_option maxHeartbeats 8000000 in
set_option maxRecDepth 100000 in
theorem pairs_Same.calls (a0 : ByteArray) (a1 : ByteArray) (r : Bool) (w : World) (h : pairs_Same.f a0 a1 = some r) :
  Calls Tryz.prog 36 #[.string a0, .string a1] w fun e w' => e = .returned (.bool r) ∧ Below w.heap.size w w' := by
 have HB := am_ (Below.refl w.heap.size w);have H : ((dns_Fold.f a0).bind fun pa => ((dns_Fold.f a1).bind fun pc => (some (pa.toList == pc.toList)))) = some r := h;clear h;obtain ⟨pa, A3, H⟩ := bnd_ H;obtain ⟨pc, A4, H⟩ := bnd_ H;obtain rfl := Option.some.inj H;go_enter Tryz.func36, Tryz.ntmps36;go_wp2_with (first | ((with_reducible refine gate_callee (f := 59) rfl ?_); refine goesL_ (some 6) rfl rfl Tryz.func59 kr_ rfl #[.string a0] rfl rl_ ?_; (with_reducible refine (dns_Fold.calls a0 pa _ A3.out).mono ?_); rintro e w5 ⟨rfl, hb⟩; refine ⟨_, rfl, ?_⟩; replace HB := bs_ HB hb; (try clear hb)) | ((with_reducible refine gate_callee (f := 59) rfl ?_); refine goesL_ (some 8) rfl rfl Tryz.func59 kr_ rfl #[.string a1] rfl rl_ ?_; (with_reducible refine (dns_Fold.calls a1 pc _ A4.out).mono ?_); rintro e w6 ⟨rfl, hb⟩; refine ⟨_, rfl, ?_⟩; replace HB := bs_ HB hb; (try clear hb)));go_ret;exact ⟨fi_, bel_ HB.out⟩

/-! ### api_Filter_45: function 45 -/
set_option maxHeartbeats 8000000 in
set_option maxRecDepth 100000 in
theorem api_Filter_45.calls (A0 : Option Addr) (c0 : Nat) (l0 : List (S26)) (w : World) (hr0 : Kd.C k26 w A0 l0.length l0) (p : S26 → Bool) (g : Nat) (lb : Array Value)
  (eg : ∀ args W, (callFunc g args).run Tryz.prog W = .ok (.enter g args) W) (hp : PredK Tryz.prog g lb k26 l0 p w) :
  Calls Tryz.prog 45 #[.slice A0 l0.length c0, .func (.func g) #[] lb] w fun e w' => e = .returned (.int .i64 (idxI p l0)) ∧ Below w.heap.size w w' := by
 have HR := Aside0.mk hr0;have HP := Aside0.mk hp;have hmx := hr0.2.1;clear hr0 hp;go_enter Tryz.func45, Tryz.ntmps45;go_wp2;go_loopg [5, 8] l0.length (fun gg _ s8 wr => ∃ kk : Nat, kk ≤ l0.length ∧ l0.length - kk ≤ gg ∧ s8 = .int .i64 kk ∧ Aside0 (Below w.heap.size w wr) ∧ Aside0 (∀ j : Nat, j < kk → p (rd_T26 l0 j) = false))
 case atStart => exact ⟨0, Nat.zero_le _, by omega, rfl, ⟨Below.refl _ w⟩, ⟨fun j hj => absurd hj (Nat.not_lt_zero _)⟩⟩
 case round =>
  obtain ⟨kk, hkk, hg, rfl, BW, AL⟩ := hrel;by_cases hlt : kk < l0.length
  ·have p1 : (0 : Int) ≤ (kk : Int) := by omega
   have q1 : (kk : Int) < (l0.length : Int) := by omega
   obtain ⟨ad, ea, hx_0, hx_1, hx_2, hx_3, hx_4, hx_5, hx_6, hx_7⟩ := at_T26 HR.out (kk : Int) p1 q1;cases ea
   replace hx_0 := (BW.out.cell (World.block_lt_of_cell? w _ hx_0)).trans hx_0;replace hx_1 := (BW.out.cell (World.block_lt_of_cell? w _ hx_1)).trans hx_1;replace hx_2 := (BW.out.cell (World.block_lt_of_cell? w _ hx_2)).trans hx_2;replace hx_3 := (BW.out.cell (World.block_lt_of_cell? w _ hx_3)).trans hx_3;replace hx_4 := (BW.out.cell (World.block_lt_of_cell? w _ hx_4)).trans hx_4;replace hx_5 := (BW.out.cell (World.block_lt_of_cell? w _ hx_5)).trans hx_5;replace hx_6 := (BW.out.cell (World.block_lt_of_cell? w _ hx_6)).trans hx_6;replace hx_7 := (BW.out.cell (World.block_lt_of_cell? w _ hx_7)).trans hx_7;have hmem : rd_T26 l0 (kk : Int) ∈ l0 := by
    unfold rd_T26;rw [Int.toNat_natCast, getD_at _ _ hlt];exact List.getElem_mem hlt
   have hcall := HP.out wr (rd_T26 l0 (kk : Int)) [.int .i64 (rd_T26 l0 (kk : Int)).f0, .string (rd_T26 l0 (kk : Int)).f1, .string (rd_T26 l0 (kk : Int)).f2, .string (rd_T26 l0 (kk : Int)).f3, .int .i64 (rd_T26 l0 (kk : Int)).f4, .string (rd_T26 l0 (kk : Int)).f5, .bool (rd_T26 l0 (kk : Int)).f6, .int .i64 (rd_T26 l0 (kk : Int)).f7] hmem BW.out (k26_mk _ _);clear hmem;simp only [Int.toNat_natCast] at hx_0 hx_1 hx_2 hx_3 hx_4 hx_5 hx_6 hx_7;generalize hy : rd_T26 l0 (kk : Int) = y at *;have HY := Aside0.mk hy;clear hy;replace p1 := eq_true p1;replace q1 := eq_true q1;cases hq : p y with
   | true =>
    rw [hq] at hcall;have HQ := Aside0.mk hq;clear hq;have HC := Aside0.mk hcall;clear hcall;go_wp2_with (go_at_fn g; refine HC.out.mono ?_; rintro e w' ⟨rfl, hb'⟩; have HB' := Aside0.mk hb'; clear hb');go_ret;refine ⟨?_, HB'.out⟩;rw [idxI_hit p l0 kk hlt (fun j hj => by have := AL.out j hj; unfold rd_T26 at this; rwa [Int.toNat_natCast, getD_at _ _ (by omega)] at this) (by have := HY.out; unfold rd_T26 at this; rw [Int.toNat_natCast, getD_at _ _ hlt] at this; rw [this]; exact HQ.out)];rfl
   | false =>
    rw [hq] at hcall;have HQ := Aside0.mk hq;clear hq;have HC := Aside0.mk hcall;clear hcall;go_wp2_with (go_at_fn g; refine HC.out.mono ?_; rintro e w' ⟨rfl, hb'⟩; have HB' := Aside0.mk hb'; clear hb');go_roundg (l0.length - (kk + 1))
    case measure => omega
    case rel =>
     refine ⟨kk + 1, by omega, by omega, by go_num, HB', ⟨fun j hj => ?_⟩⟩;by_cases e : j = kk
     ·subst e
      rw [HY.out]; exact HQ.out
     ·exact AL.out j (by omega)
  ·have q1 : ¬ (kk : Int) < (l0.length : Int) := by omega
   obtain rfl : kk = l0.length := by omega
   go_wp2;go_ret;refine ⟨?_, BW.out⟩;rw [idxI_miss p l0 (fun j hj => by have := AL.out j hj; unfold rd_T26 at this; rwa [Int.toNat_natCast, getD_at _ _ hj] at this)];rfl

/-! ### filters_ContainsFunc: function 37 -/
theorem idxI_any {α : Type} (p : α → Bool) (l : List α) : decide (idxI p l ≥ 0) = l.any p := by
 unfold idxI
 by_cases h : l.any p = true
 ·rw [if_pos h, h]; exact decide_eq_true (by omega)
 ·rw [if_neg h]
  have : l.any p = false := by simpa using h
  rw [this]; rfl
set_option maxHeartbeats 4000000 in
theorem filters_ContainsFunc_at (A0 : Option Addr) (c0 : Nat) (l0 : List (S26)) (w : World) (hr0 : Kd.C k26 w A0 l0.length l0) (p : S26 → Bool) (g : Nat) (lb : Array Value)
  (eg : ∀ args W, (callFunc g args).run Tryz.prog W = .ok (.enter g args) W) (hp : PredK Tryz.prog g lb k26 l0 p w) :
  Calls Tryz.prog 37 #[.slice A0 l0.length c0, .func (.func g) #[] lb] w fun e w' => e = .returned (.bool (l0.any p)) ∧ Below w.heap.size w w' := by
 have HI := am_ (api_Filter_45.calls A0 c0 l0 w hr0 p g lb eg hp)
 have HA := am_ (idxI_any p l0)
 clear hr0 hp eg
 generalize idxI p l0 = x at HI HA
 go_enter Tryz.func37, Tryz.ntmps37
 go_wp2_with (go_at_call 45; refine HI.out.mono ?_; rintro e w' ⟨rfl, hb'⟩; have HB' := Aside0.mk hb'; clear hb')
 go_ret
 refine ⟨?_, HB'.out⟩
 rw [← HA.out]
 rfl
/-! ### filter_All: function 12 -/
def likeF (y x : S26) : Option Bool :=
 (filter_turner.f x.f0 x.f1 x.f2 x.f3 x.f4 x.f5 x.f6 x.f7).bind fun a => (filter_turner.f y.f0 y.f1 y.f2 y.f3 y.f4 y.f5 y.f6 y.f7).bind fun b =>
  if (a && b) = true then some true else if x.f0 = y.f0 then pairs_Same.f x.f1 y.f1 else some false
def likeAny (y : S26) (l : List (S26)) : Option Bool := if (l.all fun x => (likeF y x).isSome) = true then some (l.any fun x => likeF y x == some true) else none
def filter_All.go (k : Nat) (pre : List (S26)) : List (S26) → Option Bool
 | [] => some (decide ((pre.length : Int) ≤ 8))
 | y :: r => (filter_May.f k y.f0 y.f1 y.f2 y.f3 y.f4 y.f5 y.f6 y.f7).bind fun a => if a = true then (likeAny y pre).bind fun b => if b = true then some false else filter_All.go k (pre ++ [y]) r else some false
def filter_All.f (k : Nat) (l0 : List (S26)) : Option Bool := filter_All.go k [] l0
theorem filter_All.go_mono : ∀ r pre k, LeO (filter_All.go k pre r) (filter_All.go (k + 1) pre r) := by
 intro r
 induction r with
 | nil => exact fun _ _ => LeO.refl _
 | cons y r ih =>
  intro pre k
  unfold filter_All.go
  exact LeO.bind (filter_May.mono _ _ _ _ _ _ _ _ _) (fun _ => LeO.ite (LeO.bind (LeO.refl _) (fun _ => LeO.ite (LeO.refl _) (ih _ k))) (LeO.refl _))
theorem filter_All.mono : ∀ a0 k, LeO (filter_All.f k a0) (filter_All.f (k + 1) a0) := fun a0 k => filter_All.go_mono a0 [] k
set_option maxHeartbeats 8000000 in
set_option maxRecDepth 100000 in
theorem like_pred (pb : Nat) (y : S26) (w : World) (l : List (S26)) (hn : w.heap[pb]? = some (.cells #[.int .i64 y.f0, .string y.f1, .string y.f2, .string y.f3, .int .i64 y.f4, .string y.f5, .bool y.f6, .int .i64 y.f7] 26 (0, 0))) (hq : ∀ x ∈ l, (likeF y x).isSome = true) :
  PredK Tryz.prog 34 #[.pointer (some ⟨pb, 0, none⟩)] k26 l (fun x => likeF y x == some true) w := by
 have hu26 := Tryz.underlying26
 intro W x cs hx hb hk
 obtain rfl := k26_open hk
 obtain ⟨b, hqx⟩ := Option.isSome_iff_exists.1 (hq x hx)
 simp only [hqx]
 rw [show (some b == some true) = b by cases b <;> rfl]
 rw [likeF] at hqx
 obtain ⟨a, ha, hqx⟩ := Option.bind_eq_some_iff.1 hqx
 obtain ⟨a2, ha2, hqx⟩ := Option.bind_eq_some_iff.1 hqx
 have BP := am_ (blk_below hn hb)
 have HB := am_ hb
 have HL := am_ hqx
 have HA := am_ ha
 have HA2 := am_ ha2
 clear hn hq hx hk hb hqx ha ha2
 show Calls Tryz.prog 34 #[.agg #[.int .i64 x.f0, .string x.f1, .string x.f2, .string x.f3, .int .i64 x.f4, .string x.f5, .bool x.f6, .int .i64 x.f7], .pointer (some ⟨pb, 0, none⟩)] W fun e w' => e = .returned (.bool b) ∧ Below w.heap.size w w'
 go_enter Tryz.func34, Tryz.ntmps34
 go_upto_region 1 with (first | ((with_reducible refine gate_dst (N := 2) rfl ?_); refine box_event ?hg (N := 2) ?hd (cs := #[.int .i64 x.f0, .string x.f1, .string x.f2, .string x.f3, .int .i64 x.f4, .string x.f5, .bool x.f6, .int .i64 x.f7]) (t := 26) ?hr ?_; (case hd => rfl); (case hg => rfl); (case hr => first | (go_simp; done) | (go_simp; rfl)); intro gb hg w3 hbox hb3; have HB3 := am_ (below_step HB.out hb3); have BX := am_ hbox; have BP3 := am_ (blk_below BP.out hb3); clear HB BP hb3 hbox hg))
 have hca_0 : w3.cell? ⟨gb, 0, none⟩ = some (.int .i64 x.f0) := (blk_cell BX.out 0).trans rfl
 have hca_1 : w3.cell? ⟨gb, 1, none⟩ = some (.string x.f1) := (blk_cell BX.out 1).trans rfl
 have hca_2 : w3.cell? ⟨gb, 2, none⟩ = some (.string x.f2) := (blk_cell BX.out 2).trans rfl
 have hca_3 : w3.cell? ⟨gb, 3, none⟩ = some (.string x.f3) := (blk_cell BX.out 3).trans rfl
 have hca_4 : w3.cell? ⟨gb, 4, none⟩ = some (.int .i64 x.f4) := (blk_cell BX.out 4).trans rfl
 have hca_5 : w3.cell? ⟨gb, 5, none⟩ = some (.string x.f5) := (blk_cell BX.out 5).trans rfl
 have hca_6 : w3.cell? ⟨gb, 6, none⟩ = some (.bool x.f6) := (blk_cell BX.out 6).trans rfl
 have hca_7 : w3.cell? ⟨gb, 7, none⟩ = some (.int .i64 x.f7) := (blk_cell BX.out 7).trans rfl
 have hfa_0 := blk_frozen BX.out 0
 have hfa_1 := blk_frozen BX.out 1
 have hfa_2 := blk_frozen BX.out 2
 have hfa_3 := blk_frozen BX.out 3
 have hfa_4 := blk_frozen BX.out 4
 have hfa_5 := blk_frozen BX.out 5
 have hfa_6 := blk_frozen BX.out 6
 have hfa_7 := blk_frozen BX.out 7
 have hcb_0 : w3.cell? ⟨pb, 0, none⟩ = some (.int .i64 y.f0) := (blk_cell BP3.out 0).trans rfl
 have hcb_1 : w3.cell? ⟨pb, 1, none⟩ = some (.string y.f1) := (blk_cell BP3.out 1).trans rfl
 have hcb_2 : w3.cell? ⟨pb, 2, none⟩ = some (.string y.f2) := (blk_cell BP3.out 2).trans rfl
 have hcb_3 : w3.cell? ⟨pb, 3, none⟩ = some (.string y.f3) := (blk_cell BP3.out 3).trans rfl
 have hcb_4 : w3.cell? ⟨pb, 4, none⟩ = some (.int .i64 y.f4) := (blk_cell BP3.out 4).trans rfl
 have hcb_5 : w3.cell? ⟨pb, 5, none⟩ = some (.string y.f5) := (blk_cell BP3.out 5).trans rfl
 have hcb_6 : w3.cell? ⟨pb, 6, none⟩ = some (.bool y.f6) := (blk_cell BP3.out 6).trans rfl
 have hcb_7 : w3.cell? ⟨pb, 7, none⟩ = some (.int .i64 y.f7) := (blk_cell BP3.out 7).trans rfl
 have hfb_0 := blk_frozen BP3.out 0
 have hfb_1 := blk_frozen BP3.out 1
 have hfb_2 := blk_frozen BP3.out 2
 have hfb_3 := blk_frozen BP3.out 3
 have hfb_4 := blk_frozen BP3.out 4
 have hfb_5 := blk_frozen BP3.out 5
 have hfb_6 := blk_frozen BP3.out 6
 have hfb_7 := blk_frozen BP3.out 7
 go_wp2_with fail
 refine (filter_turner.calls x.f0 x.f1 x.f2 x.f3 x.f4 x.f5 x.f6 x.f7 a _ HA.out).mono ?_
 rintro e w4 ⟨rfl, hb4⟩
 have HB4 := am_ (below_step HB3.out hb4)
 have BX4 := am_ (blk_below BX.out hb4)
 have BP4 := am_ (blk_below BP3.out hb4)
 clear hca_0 hfa_0 hca_1 hfa_1 hca_2 hfa_2 hca_3 hfa_3 hca_4 hfa_4 hca_5 hfa_5 hca_6 hfa_6 hca_7 hfa_7 hcb_0 hfb_0 hcb_1 hfb_1 hcb_2 hfb_2 hcb_3 hfb_3 hcb_4 hfb_4 hcb_5 hfb_5 hcb_6 hfb_6 hcb_7 hfb_7 HB3 BX BP3 hb4
 have hcc_0 : w4.cell? ⟨gb, 0, none⟩ = some (.int .i64 x.f0) := (blk_cell BX4.out 0).trans rfl
 have hcc_1 : w4.cell? ⟨gb, 1, none⟩ = some (.string x.f1) := (blk_cell BX4.out 1).trans rfl
 have hcc_2 : w4.cell? ⟨gb, 2, none⟩ = some (.string x.f2) := (blk_cell BX4.out 2).trans rfl
 have hcc_3 : w4.cell? ⟨gb, 3, none⟩ = some (.string x.f3) := (blk_cell BX4.out 3).trans rfl
 have hcc_4 : w4.cell? ⟨gb, 4, none⟩ = some (.int .i64 x.f4) := (blk_cell BX4.out 4).trans rfl
 have hcc_5 : w4.cell? ⟨gb, 5, none⟩ = some (.string x.f5) := (blk_cell BX4.out 5).trans rfl
 have hcc_6 : w4.cell? ⟨gb, 6, none⟩ = some (.bool x.f6) := (blk_cell BX4.out 6).trans rfl
 have hcc_7 : w4.cell? ⟨gb, 7, none⟩ = some (.int .i64 x.f7) := (blk_cell BX4.out 7).trans rfl
 have hfc_0 := blk_frozen BX4.out 0
 have hfc_1 := blk_frozen BX4.out 1
 have hfc_2 := blk_frozen BX4.out 2
 have hfc_3 := blk_frozen BX4.out 3
 have hfc_4 := blk_frozen BX4.out 4
 have hfc_5 := blk_frozen BX4.out 5
 have hfc_6 := blk_frozen BX4.out 6
 have hfc_7 := blk_frozen BX4.out 7
 have hcd_0 : w4.cell? ⟨pb, 0, none⟩ = some (.int .i64 y.f0) := (blk_cell BP4.out 0).trans rfl
 have hcd_1 : w4.cell? ⟨pb, 1, none⟩ = some (.string y.f1) := (blk_cell BP4.out 1).trans rfl
 have hcd_2 : w4.cell? ⟨pb, 2, none⟩ = some (.string y.f2) := (blk_cell BP4.out 2).trans rfl
 have hcd_3 : w4.cell? ⟨pb, 3, none⟩ = some (.string y.f3) := (blk_cell BP4.out 3).trans rfl
 have hcd_4 : w4.cell? ⟨pb, 4, none⟩ = some (.int .i64 y.f4) := (blk_cell BP4.out 4).trans rfl
 have hcd_5 : w4.cell? ⟨pb, 5, none⟩ = some (.string y.f5) := (blk_cell BP4.out 5).trans rfl
 have hcd_6 : w4.cell? ⟨pb, 6, none⟩ = some (.bool y.f6) := (blk_cell BP4.out 6).trans rfl
 have hcd_7 : w4.cell? ⟨pb, 7, none⟩ = some (.int .i64 y.f7) := (blk_cell BP4.out 7).trans rfl
 have hfd_0 := blk_frozen BP4.out 0
 have hfd_1 := blk_frozen BP4.out 1
 have hfd_2 := blk_frozen BP4.out 2
 have hfd_3 := blk_frozen BP4.out 3
 have hfd_4 := blk_frozen BP4.out 4
 have hfd_5 := blk_frozen BP4.out 5
 have hfd_6 := blk_frozen BP4.out 6
 have hfd_7 := blk_frozen BP4.out 7
 cases a with
 | true =>
  go_wp2_with fail
  refine (filter_turner.calls y.f0 y.f1 y.f2 y.f3 y.f4 y.f5 y.f6 y.f7 a2 _ HA2.out).mono ?_
  rintro e w5 ⟨rfl, hb5⟩
  have HB5 := am_ (below_step HB4.out hb5)
  have BX5 := am_ (blk_below BX4.out hb5)
  have BP5 := am_ (blk_below BP4.out hb5)
  clear hcc_0 hfc_0 hcc_1 hfc_1 hcc_2 hfc_2 hcc_3 hfc_3 hcc_4 hfc_4 hcc_5 hfc_5 hcc_6 hfc_6 hcc_7 hfc_7 hcd_0 hfd_0 hcd_1 hfd_1 hcd_2 hfd_2 hcd_3 hfd_3 hcd_4 hfd_4 hcd_5 hfd_5 hcd_6 hfd_6 hcd_7 hfd_7 HB4 BX4 BP4 hb5
  have hce_0 : w5.cell? ⟨gb, 0, none⟩ = some (.int .i64 x.f0) := (blk_cell BX5.out 0).trans rfl
  have hce_1 : w5.cell? ⟨gb, 1, none⟩ = some (.string x.f1) := (blk_cell BX5.out 1).trans rfl
  have hce_2 : w5.cell? ⟨gb, 2, none⟩ = some (.string x.f2) := (blk_cell BX5.out 2).trans rfl
  have hce_3 : w5.cell? ⟨gb, 3, none⟩ = some (.string x.f3) := (blk_cell BX5.out 3).trans rfl
  have hce_4 : w5.cell? ⟨gb, 4, none⟩ = some (.int .i64 x.f4) := (blk_cell BX5.out 4).trans rfl
  have hce_5 : w5.cell? ⟨gb, 5, none⟩ = some (.string x.f5) := (blk_cell BX5.out 5).trans rfl
  have hce_6 : w5.cell? ⟨gb, 6, none⟩ = some (.bool x.f6) := (blk_cell BX5.out 6).trans rfl
  have hce_7 : w5.cell? ⟨gb, 7, none⟩ = some (.int .i64 x.f7) := (blk_cell BX5.out 7).trans rfl
  have hfe_0 := blk_frozen BX5.out 0
  have hfe_1 := blk_frozen BX5.out 1
  have hfe_2 := blk_frozen BX5.out 2
  have hfe_3 := blk_frozen BX5.out 3
  have hfe_4 := blk_frozen BX5.out 4
  have hfe_5 := blk_frozen BX5.out 5
  have hfe_6 := blk_frozen BX5.out 6
  have hfe_7 := blk_frozen BX5.out 7
  have hcf_0 : w5.cell? ⟨pb, 0, none⟩ = some (.int .i64 y.f0) := (blk_cell BP5.out 0).trans rfl
  have hcf_1 : w5.cell? ⟨pb, 1, none⟩ = some (.string y.f1) := (blk_cell BP5.out 1).trans rfl
  have hcf_2 : w5.cell? ⟨pb, 2, none⟩ = some (.string y.f2) := (blk_cell BP5.out 2).trans rfl
  have hcf_3 : w5.cell? ⟨pb, 3, none⟩ = some (.string y.f3) := (blk_cell BP5.out 3).trans rfl
  have hcf_4 : w5.cell? ⟨pb, 4, none⟩ = some (.int .i64 y.f4) := (blk_cell BP5.out 4).trans rfl
  have hcf_5 : w5.cell? ⟨pb, 5, none⟩ = some (.string y.f5) := (blk_cell BP5.out 5).trans rfl
  have hcf_6 : w5.cell? ⟨pb, 6, none⟩ = some (.bool y.f6) := (blk_cell BP5.out 6).trans rfl
  have hcf_7 : w5.cell? ⟨pb, 7, none⟩ = some (.int .i64 y.f7) := (blk_cell BP5.out 7).trans rfl
  have hff_0 := blk_frozen BP5.out 0
  have hff_1 := blk_frozen BP5.out 1
  have hff_2 := blk_frozen BP5.out 2
  have hff_3 := blk_frozen BP5.out 3
  have hff_4 := blk_frozen BP5.out 4
  have hff_5 := blk_frozen BP5.out 5
  have hff_6 := blk_frozen BP5.out 6
  have hff_7 := blk_frozen BP5.out 7
  cases a2 with
  | true =>
   have hL := HL.out
   rw [if_pos (show (true && true) = true from rfl)] at hL
   obtain rfl := Option.some.inj hL
   go_wp2
   go_ret
   exact ⟨fi_, HB5.out⟩
  | false =>
   have hL := HL.out
   rw [if_neg (show ¬ (true && false) = true by decide)] at hL
   by_cases hk : x.f0 = y.f0
   ·rw [if_pos hk] at hL
    have c0 : (x.f0 == y.f0) = true := beq_iff_eq.mpr hk
    have HL2 := am_ hL
    clear hL hk
    go_wp2_with fail
    refine (pairs_Same.calls x.f1 y.f1 b _ HL2.out).mono ?_
    rintro e w6 ⟨rfl, hb6⟩
    have HB6 := am_ (below_step HB5.out hb6)
    clear hb6
    go_wp2
    go_ret
    exact ⟨fi_, HB6.out⟩
   ·rw [if_neg hk] at hL
    obtain rfl := Option.some.inj hL
    have c0 : (x.f0 == y.f0) = false := beq_eq_false_iff_ne.mpr hk
    clear hL
    go_wp2
    go_ret
    exact ⟨fi_, HB5.out⟩
 | false =>
  have hL := HL.out
  rw [if_neg (show ¬ (false && a2) = true by simp)] at hL
  by_cases hk : x.f0 = y.f0
  ·rw [if_pos hk] at hL
   have c0 : (x.f0 == y.f0) = true := beq_iff_eq.mpr hk
   have HL2 := am_ hL
   clear hL hk
   go_wp2_with fail
   refine (pairs_Same.calls x.f1 y.f1 b _ HL2.out).mono ?_
   rintro e w6 ⟨rfl, hb6⟩
   have HB6 := am_ (below_step HB4.out hb6)
   clear hb6
   go_wp2
   go_ret
   exact ⟨fi_, HB6.out⟩
  ·rw [if_neg hk] at hL
   obtain rfl := Option.some.inj hL
   have c0 : (x.f0 == y.f0) = false := beq_eq_false_iff_ne.mpr hk
   clear hL
   go_wp2
   go_ret
   exact ⟨fi_, HB4.out⟩
theorem C_takeF {α : Type} {d : Kd α} {w : World} {A : Option Addr} {l : List α} (h : Kd.C d w A l.length l) (i : Nat) : Kd.C d w A (l.take i).length (l.take i) := by
 obtain ⟨h1, h2, h3⟩ := h
 refine ⟨rfl, by rw [List.length_take]; omega, fun h0 => ?_⟩
 obtain ⟨ad, e, h4⟩ := h3 (by rw [List.length_take] at h0; omega)
 refine ⟨ad, e, fun j p hj => h4 j p ?_⟩
 rw [List.getElem?_take] at hj
 split at hj
 ·exact hj
 ·cases hj
set_option maxHeartbeats 8000000 in
set_option maxRecDepth 100000 in
theorem filter_All.calls (k : Nat) (A0 : Option Addr) (c0 : Nat) (l0 : List (S26)) (r : Bool) (w : World) (hr0 : Kd.C k26 w A0 l0.length l0) (hc0 : l0.length ≤ c0) (h : filter_All.f k l0 = some r) :
 Calls Tryz.prog 12 #[.slice A0 l0.length c0] w fun e w' => e = .returned (.bool r) ∧ Below w.heap.size w w' := by
 have EG1 : Aside0 (∀ args W, (callFunc 34 args).run Tryz.prog W = .ok (.enter 34 args) W) := am_ (enters_of Tryz.func34 kr_ rfl)
 have HR := am_ hr0
 have H0 := am_ (show filter_All.go k [] l0 = some r from h)
 have hmx := hr0.2.1
 have hu26 := Tryz.underlying26
 clear hr0 h
 go_enter Tryz.func12, Tryz.ntmps12
 go_wp2
 go_loopg [8] l0.length (fun gg s8 wr => ∃ kk : Nat, kk ≤ l0.length ∧ l0.length - kk ≤ gg ∧ s8 = .int .i64 kk ∧ Aside0 (Below w.heap.size w wr) ∧ Aside0 (filter_All.go k (l0.take kk) (l0.drop kk) = some r))
 case atStart => exact ⟨0, Nat.zero_le _, by omega, rfl, ⟨Below.refl _ w⟩, ⟨by rw [List.take_zero, List.drop_zero]; exact H0.out⟩⟩
 case round =>
  obtain ⟨kk, hkk, hg, rfl, BW, HK⟩ := hrel
  clear H0
  by_cases hlt : kk < l0.length
  ·have p1 : (0 : Int) ≤ (kk : Int) := by omega
   have q1 : (kk : Int) < (l0.length : Int) := by omega
   have q2 : (kk : Int) ≤ (l0.length : Int) := by omega
   have q3 : (kk : Int) ≤ (c0 : Int) := by omega
   obtain ⟨ad, ea, hx_0, hx_1, hx_2, hx_3, hx_4, hx_5, hx_6, hx_7⟩ := at_T26 HR.out (kk : Int) p1 q1
   cases ea
   replace hx_0 := (BW.out.cell (World.block_lt_of_cell? w _ hx_0)).trans hx_0
   replace hx_1 := (BW.out.cell (World.block_lt_of_cell? w _ hx_1)).trans hx_1
   replace hx_2 := (BW.out.cell (World.block_lt_of_cell? w _ hx_2)).trans hx_2
   replace hx_3 := (BW.out.cell (World.block_lt_of_cell? w _ hx_3)).trans hx_3
   replace hx_4 := (BW.out.cell (World.block_lt_of_cell? w _ hx_4)).trans hx_4
   replace hx_5 := (BW.out.cell (World.block_lt_of_cell? w _ hx_5)).trans hx_5
   replace hx_6 := (BW.out.cell (World.block_lt_of_cell? w _ hx_6)).trans hx_6
   replace hx_7 := (BW.out.cell (World.block_lt_of_cell? w _ hx_7)).trans hx_7
   simp only [Int.toNat_natCast] at hx_0 hx_1 hx_2 hx_3 hx_4 hx_5 hx_6 hx_7
   have hy0 : rd_T26 l0 (kk : Int) = l0[kk]'hlt := by
    unfold rd_T26
    rw [Int.toNat_natCast, getD_at _ _ hlt]
   have hdk : l0.drop kk = rd_T26 l0 (kk : Int) :: l0.drop (kk + 1) := by rw [hy0]; exact List.drop_eq_getElem_cons hlt
   have htk : l0.take (kk + 1) = l0.take kk ++ [rd_T26 l0 (kk : Int)] := by rw [hy0]; exact List.take_succ_eq_append_getElem hlt
   have hk1 := HK.out
   rw [hdk] at hk1
   have htl : (l0.take kk).length = kk := by rw [List.length_take]; omega
   have HTK := am_ htk
   have HTL := am_ htl
   clear hy0 hdk HK htk htl
   generalize rd_T26 l0 (kk : Int) = y at *
   rw [filter_All.go] at hk1
   obtain ⟨a, ha, hk2⟩ := Option.bind_eq_some_iff.1 hk1
   have HA := am_ ha
   have HK2 := am_ hk2
   clear hk1 ha hk2
   replace p1 := eq_true p1
   replace q1 := eq_true q1
   replace q2 := eq_true q2
   replace q3 := eq_true q3
   go_upto_region 4 with (first | ((with_reducible refine gate_dst (N := 4) rfl ?_); refine box_event ?hg (N := 4) ?hd (cs := #[.int .i64 0, .string ⟨#[]⟩, .string ⟨#[]⟩, .string ⟨#[]⟩, .int .i64 0, .string ⟨#[]⟩, .bool false, .int .i64 0]) (t := 26) ?hr ?_; (case hd => rfl); (case hg => rfl); (case hr => first | (go_simp; done) | (go_simp; rfl)); intro gb hg3 w3 hbox hb3; have hgw := am_ (show wr.heap.size ≤ gb from hg3 ▸ Nat.le_refl _); have BX := am_ hbox; have HB3 := am_ hb3; clear hb3 hbox hg3; replace hx_0 := (HB3.out.cell (World.block_lt_of_cell? _ _ hx_0)).trans hx_0; replace hx_1 := (HB3.out.cell (World.block_lt_of_cell? _ _ hx_1)).trans hx_1; replace hx_2 := (HB3.out.cell (World.block_lt_of_cell? _ _ hx_2)).trans hx_2; replace hx_3 := (HB3.out.cell (World.block_lt_of_cell? _ _ hx_3)).trans hx_3; replace hx_4 := (HB3.out.cell (World.block_lt_of_cell? _ _ hx_4)).trans hx_4; replace hx_5 := (HB3.out.cell (World.block_lt_of_cell? _ _ hx_5)).trans hx_5; replace hx_6 := (HB3.out.cell (World.block_lt_of_cell? _ _ hx_6)).trans hx_6; replace hx_7 := (HB3.out.cell (World.block_lt_of_cell? _ _ hx_7)).trans hx_7; have hcz_0 : w3.cell? ⟨gb, 0, none⟩ = some (.int .i64 0) := (blk_cell BX.out 0).trans rfl; have hfz_0 := blk_frozen BX.out 0; have hcz_1 : w3.cell? ⟨gb, 1, none⟩ = some (.string ⟨#[]⟩) := (blk_cell BX.out 1).trans rfl; have hfz_1 := blk_frozen BX.out 1; have hcz_2 : w3.cell? ⟨gb, 2, none⟩ = some (.string ⟨#[]⟩) := (blk_cell BX.out 2).trans rfl; have hfz_2 := blk_frozen BX.out 2; have hcz_3 : w3.cell? ⟨gb, 3, none⟩ = some (.string ⟨#[]⟩) := (blk_cell BX.out 3).trans rfl; have hfz_3 := blk_frozen BX.out 3; have hcz_4 : w3.cell? ⟨gb, 4, none⟩ = some (.int .i64 0) := (blk_cell BX.out 4).trans rfl; have hfz_4 := blk_frozen BX.out 4; have hcz_5 : w3.cell? ⟨gb, 5, none⟩ = some (.string ⟨#[]⟩) := (blk_cell BX.out 5).trans rfl; have hfz_5 := blk_frozen BX.out 5; have hcz_6 : w3.cell? ⟨gb, 6, none⟩ = some (.bool false) := (blk_cell BX.out 6).trans rfl; have hfz_6 := blk_frozen BX.out 6; have hcz_7 : w3.cell? ⟨gb, 7, none⟩ = some (.int .i64 0) := (blk_cell BX.out 7).trans rfl; have hfz_7 := blk_frozen BX.out 7))
   have BX4 := am_ (blk_put (cs' := #[.int .i64 y.f0, .string y.f1, .string y.f2, .string y.f3, .int .i64 y.f4, .string y.f5, .bool y.f6, .int .i64 y.f7]) (blk_put (cs' := #[.int .i64 y.f0, .string y.f1, .string y.f2, .string y.f3, .int .i64 y.f4, .string y.f5, .bool y.f6, .int .i64 0]) (blk_put (cs' := #[.int .i64 y.f0, .string y.f1, .string y.f2, .string y.f3, .int .i64 y.f4, .string y.f5, .bool false, .int .i64 0]) (blk_put (cs' := #[.int .i64 y.f0, .string y.f1, .string y.f2, .string y.f3, .int .i64 y.f4, .string ⟨#[]⟩, .bool false, .int .i64 0]) (blk_put (cs' := #[.int .i64 y.f0, .string y.f1, .string y.f2, .string y.f3, .int .i64 0, .string ⟨#[]⟩, .bool false, .int .i64 0]) (blk_put (cs' := #[.int .i64 y.f0, .string y.f1, .string y.f2, .string ⟨#[]⟩, .int .i64 0, .string ⟨#[]⟩, .bool false, .int .i64 0]) (blk_put (cs' := #[.int .i64 y.f0, .string y.f1, .string ⟨#[]⟩, .string ⟨#[]⟩, .int .i64 0, .string ⟨#[]⟩, .bool false, .int .i64 0]) (blk_put (cs' := #[.int .i64 y.f0, .string ⟨#[]⟩, .string ⟨#[]⟩, .string ⟨#[]⟩, .int .i64 0, .string ⟨#[]⟩, .bool false, .int .i64 0]) BX.out 0 (.int .i64 y.f0) rfl) 1 (.string y.f1) rfl) 2 (.string y.f2) rfl) 3 (.string y.f3) rfl) 4 (.int .i64 y.f4) rfl) 5 (.string y.f5) rfl) 6 (.bool y.f6) rfl) 7 (.int .i64 y.f7) rfl)
   have HB4 := am_ ((((((((HB3.out.setCell (p := ⟨gb, 0, none⟩) hgw.out (.int .i64 y.f0)).setCell (p := ⟨gb, 1, none⟩) hgw.out (.string y.f1)).setCell (p := ⟨gb, 2, none⟩) hgw.out (.string y.f2)).setCell (p := ⟨gb, 3, none⟩) hgw.out (.string y.f3)).setCell (p := ⟨gb, 4, none⟩) hgw.out (.int .i64 y.f4)).setCell (p := ⟨gb, 5, none⟩) hgw.out (.string y.f5)).setCell (p := ⟨gb, 6, none⟩) hgw.out (.bool y.f6)).setCell (p := ⟨gb, 7, none⟩) hgw.out (.int .i64 y.f7))
   generalize ((((((((w3.setCell ⟨gb, 0, none⟩ (.int .i64 y.f0)).setCell ⟨gb, 1, none⟩ (.string y.f1)).setCell ⟨gb, 2, none⟩ (.string y.f2)).setCell ⟨gb, 3, none⟩ (.string y.f3)).setCell ⟨gb, 4, none⟩ (.int .i64 y.f4)).setCell ⟨gb, 5, none⟩ (.string y.f5)).setCell ⟨gb, 6, none⟩ (.bool y.f6)).setCell ⟨gb, 7, none⟩ (.int .i64 y.f7)) = W4 at BX4 HB4 ⊢
   clear hcz_0 hfz_0 hcz_1 hfz_1 hcz_2 hfz_2 hcz_3 hfz_3 hcz_4 hfz_4 hcz_5 hfz_5 hcz_6 hfz_6 hcz_7 hfz_7
   have HBW := am_ (below_step BW.out HB4.out)
   have hca_0 : W4.cell? ⟨gb, 0, none⟩ = some (.int .i64 y.f0) := (blk_cell BX4.out 0).trans rfl
   have hca_1 : W4.cell? ⟨gb, 1, none⟩ = some (.string y.f1) := (blk_cell BX4.out 1).trans rfl
   have hca_2 : W4.cell? ⟨gb, 2, none⟩ = some (.string y.f2) := (blk_cell BX4.out 2).trans rfl
   have hca_3 : W4.cell? ⟨gb, 3, none⟩ = some (.string y.f3) := (blk_cell BX4.out 3).trans rfl
   have hca_4 : W4.cell? ⟨gb, 4, none⟩ = some (.int .i64 y.f4) := (blk_cell BX4.out 4).trans rfl
   have hca_5 : W4.cell? ⟨gb, 5, none⟩ = some (.string y.f5) := (blk_cell BX4.out 5).trans rfl
   have hca_6 : W4.cell? ⟨gb, 6, none⟩ = some (.bool y.f6) := (blk_cell BX4.out 6).trans rfl
   have hca_7 : W4.cell? ⟨gb, 7, none⟩ = some (.int .i64 y.f7) := (blk_cell BX4.out 7).trans rfl
   have hfa_0 := blk_frozen BX4.out 0
   have hfa_1 := blk_frozen BX4.out 1
   have hfa_2 := blk_frozen BX4.out 2
   have hfa_3 := blk_frozen BX4.out 3
   have hfa_4 := blk_frozen BX4.out 4
   have hfa_5 := blk_frozen BX4.out 5
   have hfa_6 := blk_frozen BX4.out 6
   have hfa_7 := blk_frozen BX4.out 7
   clear hx_0 hx_1 hx_2 hx_3 hx_4 hx_5 hx_6 hx_7
   go_wp2_with fail
   refine (filter_May.calls k y.f0 y.f1 y.f2 y.f3 y.f4 y.f5 y.f6 y.f7 a _ HA.out).mono ?_
   rintro e w5 ⟨rfl, hb5⟩
   have HBW5 := am_ (below_step HBW.out hb5)
   have HB5 := am_ (below_step HB4.out hb5)
   have BX5 := am_ (blk_below BX4.out hb5)
   clear hca_0 hfa_0 hca_1 hfa_1 hca_2 hfa_2 hca_3 hfa_3 hca_4 hfa_4 hca_5 hfa_5 hca_6 hfa_6 hca_7 hfa_7 HBW HB4 BX4 hb5
   cases a with
   | false =>
    have hk2 := HK2.out
    rw [if_neg (by decide)] at hk2
    obtain rfl := Option.some.inj hk2
    clear hk2
    go_wp2
    go_ret
    exact ⟨fi_, HBW5.out⟩
   | true =>
    have hk2 := HK2.out
    rw [if_pos rfl] at hk2
    obtain ⟨b, hb', hk3⟩ := Option.bind_eq_some_iff.1 hk2
    rw [likeAny] at hb'
    by_cases hall : ((l0.take kk).all fun x => (likeF y x).isSome) = true
    ·rw [if_pos hall] at hb'
     have hany := Option.some.inj hb'
     have hcall : ∀ W, Below w5.heap.size w5 W → Calls Tryz.prog 37 #[.slice (some ad) kk c0, .func (.func 34) #[] #[.pointer (some ⟨gb, 0, none⟩)]] W fun e w' => e = .returned (.bool b) ∧ Below W.heap.size W w' := fun W hW => by
      have hCW : Kd.C k26 W (some ad) (l0.take kk).length (l0.take kk) := C_takeF (Kd.C_below (Kd.C_below HR.out HBW5.out) hW) kk
      have := filters_ContainsFunc_at (some ad) c0 (l0.take kk) W hCW (fun x => likeF y x == some true) 34 _ EG1.out (like_pred gb y W (l0.take kk) (blk_below BX5.out hW) (List.all_eq_true.1 hall))
      rw [HTL.out, hany] at this
      exact this
     have HC := am_ hcall
     have HK3 := am_ hk3
     clear hcall hk3 hk2 hb' hany hall HK2 HA HB3 BX HB5 hgw
     cases b with
     | true =>
      have hk3 := HK3.out
      rw [if_pos rfl] at hk3
      obtain rfl := Option.some.inj hk3
      clear hk3
      go_wp2_with (go_at_call 37; refine (HC.out _ (bel_ (Below.refl _ w5))).mono ?_; rintro e w6 ⟨rfl, hb6⟩; have HBW6 := am_ (below_step HBW5.out hb6); clear hb6)
      go_ret
      exact ⟨fi_, HBW6.out⟩
     | false =>
      have hk3 := HK3.out
      rw [if_neg (by decide), ← HTK.out] at hk3
      have HK4 := am_ hk3
      clear hk3 HK3
      go_wp2_with (go_at_call 37; refine (HC.out _ (bel_ (Below.refl _ w5))).mono ?_; rintro e w6 ⟨rfl, hb6⟩; have HBW6 := am_ (below_step HBW5.out hb6); clear hb6)
      go_roundg (l0.length - (kk + 1))
      case measure => omega
      case rel => exact ⟨kk + 1, by omega, by omega, by go_num, HBW6, HK4⟩
    ·rw [if_neg hall] at hb'; cases hb'
  ·have q1 : ¬ (kk : Int) < (l0.length : Int) := by omega
   obtain rfl : kk = l0.length := by omega
   have hk1 := HK.out
   rw [List.take_length, List.drop_length, filter_All.go] at hk1
   obtain rfl := Option.some.inj hk1
   clear hk1 HK
   go_wp2
   go_ret
   exact ⟨fi_, BW.out⟩

/-! ### path_Holds: function 39 -/
def path_Holds.j0 : Nat → ByteArray → Bool → Int → ByteArray → Option (Bool)
 | 0, _, _, _, _ => none
 | k + 1, x1, x5, x187000, x187001 => if x5 = true then (some false) else (if x187001.toList = x1.toList then (some true) else (if x187000 = 2 then (if x187001.toList = ([47] : List UInt8) then (some true) else (if x187001.size + 1 ≤ 9223372036854775807 then ((strings_HasPrefix.f x1 (x187001 ++ (⟨#[47]⟩ : ByteArray))).bind fun t189 => (some t189)) else (none))) else (some false)))
def path_Holds.f (k : Nat) (a0_0 : Int) (a0_1 : ByteArray) (a1 : ByteArray) : Option (Bool) := (path_May.f a0_0 a0_1).bind fun t187 => (if t187 = true then ((path_Is.f a1).bind fun t188 => (path_Holds.j0 k a1 (!t188) a0_0 a0_1)) else (path_Holds.j0 k a1 true a0_0 a0_1))
theorem path_Holds.mono_l : ∀ k, (∀ y0 y1 y2 y3, LeO (path_Holds.j0 k y0 y1 y2 y3) (path_Holds.j0 (k + 1) y0 y1 y2 y3))
 | 0 => fun _ _ _ _ r h => by simp [path_Holds.j0] at h
 | k + 1 => by
  have ih0 := path_Holds.mono_l k
  ·intro y0 y1 y2 y3
   unfold path_Holds.j0
   repeat' with_reducible first | apply ih0 | apply LeO.refl | apply LeO.none | apply LeO.ite | refine LeO.bind ?_ fun _ => ?_
theorem path_Holds.mono : ∀ a0 a1 a2 k, LeO (path_Holds.f k a0 a1 a2) (path_Holds.f (k + 1) a0 a1 a2) := by
 intro a0 a1 a2 k
 have ih0 := path_Holds.mono_l k
 unfold path_Holds.f
 repeat' with_reducible first | apply ih0 | apply LeO.refl | apply LeO.none | apply LeO.ite | refine LeO.bind ?_ fun _ => ?_
set_option maxHeartbeats 8000000 in
set_option maxRecDepth 100000 in
theorem path_Holds.calls (k : Nat) (pd : Int) (pa : ByteArray) (a1 : ByteArray) (r : Bool) (w : World) (h : path_Holds.f k pd pa a1 = some r) :
  Calls Tryz.prog 39 #[.agg #[.int .i64 pd, .string pa], .string a1] w fun e w' => e = .returned (.bool r) ∧ Below w.heap.size w w' := by
 have hu30 := Tryz.underlying30;have HB := am_ (Below.refl w.heap.size w);have H : ((path_May.f pd pa).bind fun pg => (if pg = true then ((path_Is.f a1).bind fun pe => (path_Holds.j0 k a1 (!pe) pd pa)) else (path_Holds.j0 k a1 true pd pa))) = some r := h;clear h;have HC3 := Aside0.mk H;clear H;go_enter Tryz.func39, Tryz.ntmps39;go_upto_region 1 with (first | ((with_reducible refine gate_dst (N := 2) rfl ?_); refine box_event ?hg (N := 2) ?hd (cs := #[.int .i64 pd, .string pa]) (t := 30) ?hr ?_; (case hd => rfl); (case hg => rfl); (case hr => first | (go_simp; done) | (go_simp; rfl)); intro ph hg w4 hbox hb; have pc := am_ (hbox); have pp := sz_ HB hg; have pq := sz_ HB hg; replace HB := bs_ HB hb; clear hb hbox hg))
 (try simp only [Act.put, List.setIfInBounds_toArray, List.set_cons_zero, List.set_cons_succ]);go_cut [5] (fun v5 wc => ∃ (kq : Nat) (pf : Bool), v5 = .bool pf ∧ Aside0 (path_Holds.j0 kq a1 pf pd pa = some r) ∧ Aside0 (kq ≤ k) ∧ Aside0 (wc.heap[ph]? = some (.cells #[.int .i64 pd, .string pa] 30 (0, 0))) ∧ Aside0 (Below w.heap.size w wc))
 case first =>
  have H := HC3.out;clear HC3;obtain ⟨pg, A5, H⟩ := bnd_ H;by_cases c6 : pg = true
  ·subst c6
   replace H := ift_ H;obtain ⟨pe, A7, H⟩ := bnd_ H;have H' := Aside0.mk H;clear H;obtain ⟨pr, ps, pt, pu⟩ := blk2 pc.out;go_wp2_with (first | ((with_reducible refine gate_callee (f := 55) rfl ?_); refine goesL_ (some 7) rfl rfl Tryz.func55 kr_ rfl #[.agg #[.int .i64 pd, .string pa]] rfl rl_ ?_; (with_reducible refine (path_May.calls pd pa true _ A5.out).mono ?_); rintro e w9 ⟨rfl, hb⟩; refine ⟨_, rfl, ?_⟩; replace pc := bb_ pc hb; replace HB := bs_ HB hb; (try clear hb)) | (go_at_call 54; (with_reducible refine (path_Is.calls a1 pe _ A7.out).mono ?_); rintro e w10 ⟨rfl, hb⟩; replace pc := bb_ pc hb; replace HB := bs_ HB hb; (try clear hb)));go_meet
   case rel => exact ⟨_, (!pe), sd_, H', ⟨le_⟩, ⟨blk_ pc.out⟩, ⟨bel_ HB.out⟩⟩
  ·replace c6 := Bool.eq_false_iff.mpr c6
   subst c6;replace H := iff_ H;have H' := Aside0.mk H;clear H;obtain ⟨pv, pw, px, pz⟩ := blk2 pc.out;go_wp2_with (first | ((with_reducible refine gate_callee (f := 55) rfl ?_); refine goesL_ (some 7) rfl rfl Tryz.func55 kr_ rfl #[.agg #[.int .i64 pd, .string pa]] rfl rl_ ?_; (with_reducible refine (path_May.calls pd pa false _ A5.out).mono ?_); rintro e w12 ⟨rfl, hb⟩; refine ⟨_, rfl, ?_⟩; replace pc := bb_ pc hb; replace HB := bs_ HB hb; (try clear hb)));go_meet
   case rel => exact ⟨_, (true), sd_, H', ⟨le_⟩, ⟨blk_ pc.out⟩, ⟨bel_ HB.out⟩⟩
 case rest =>
  clear HC3;obtain ⟨kq, pf, rfl, HA, HJ2, pc, HB⟩ := hcut;cases kq with
  | zero => exact absurd HA.out (by simp [path_Holds.j0])
  | succ kj2 =>
   have H := HA.out;clear HA;simp only [path_Holds.j0] at H;by_cases c13 : pf = true
   ·subst c13
    replace H := ift_ H;obtain rfl := Option.some.inj H;go_wp2;go_ret;exact ⟨fi_, bel_ HB.out⟩
   ·replace c13 := Bool.eq_false_iff.mpr c13
    subst c13;replace H := iff_ H;by_cases c14 : pa.toList = a1.toList
    ·rw [if_pos c14] at H
     have pi := eqb_ c14;have pj := neb_ c14;clear c14;obtain rfl := Option.some.inj H;obtain ⟨pA, pB, pC, pD⟩ := blk2 pc.out;go_wp2;go_ret;exact ⟨fi_, bel_ HB.out⟩
    ·rw [if_neg c14] at H
     have pi := eqf_ c14;have pj := nef_ c14;by_cases c16 : pd = 2
     ·rw [if_pos c16] at H
      (try (have c16k := c16; simp only [Bool.and_eq_true, beq_iff_eq, Bool.not_eq_true'] at c16k; have c16l := eq_true c16k; clear c16k)); (try (have c16m := c16; simp only [beq_nil_isEmpty] at c16m));have pk := eqb_ c16;have pl := neb_ c16;clear c16;by_cases c17 : pa.toList = ([47] : List UInt8)
      ·rw [if_pos c17] at H
       have pm := eqb_ c17;have pn := neb_ c17;clear c17;obtain rfl := Option.some.inj H;obtain ⟨pE, pF, pG, pH⟩ := blk2 pc.out;go_wp2;go_ret;exact ⟨fi_, bel_ HB.out⟩
      ·rw [if_neg c17] at H
       have pm := eqf_ c17;have pn := nef_ c17;by_cases c19 : pa.size + 1 ≤ 9223372036854775807
       ·rw [if_pos c19] at H
        have pI := eq_true c19;have pJ := decide_eq_true c19;try have pK : (9223372036854775807 < pa.size + 1) = False := eq_false (Nat.not_lt.2 c19)
        obtain ⟨po, A20, H⟩ := bnd_ H;obtain rfl := Option.some.inj H;obtain ⟨pL, pM, pN, pO⟩ := blk2 pc.out;go_wp2_with (first | (go_at_call 60; (with_reducible refine (strings_HasPrefix.calls a1 (pa ++ (⟨#[47]⟩ : ByteArray)) po _ A20.out).mono ?_); rintro e w' ⟨rfl, ⟨nd, rfl⟩⟩));go_ret;exact ⟨fi_, bel_ HB.out⟩
       ·rw [if_neg c19] at H
        cases H
     ·rw [if_neg c16] at H
      (try (have c16k := c16; simp only [Bool.and_eq_true, beq_iff_eq, Bool.not_eq_true'] at c16k; have c16l := eq_false c16k; clear c16k)); (try (have c16m := c16; simp only [beq_nil_isEmpty] at c16m));have pk := eqf_ c16;have pl := nef_ c16;obtain rfl := Option.some.inj H;obtain ⟨pP, pQ, pR, pS⟩ := blk2 pc.out;go_wp2;go_ret;exact ⟨fi_, bel_ HB.out⟩

/-! ### api_Pair_101: function 101 -/
def api_Pair_101.f (l0 : List (S59)) : Option (List (S59)) := if l0.length * 32 ≤ 140737488355328 then some l0 else none
set_option maxHeartbeats 8000000 in
set_option maxRecDepth 100000 in
theorem api_Pair_101.calls (A0 : Option Addr) (c0 : Nat) (l0 : List (S59)) (r : List (S59)) (w : World) (hr0 : Kd.C k59 w A0 l0.length l0) (hc0 : l0.length ≤ c0) (h : api_Pair_101.f l0 = some r) :
  Calls Tryz.prog 101 #[.slice A0 l0.length c0] w fun e w' => ∃ v0_ : Value, e = .returned (v0_) ∧ Kd.R k59 59 w' w.heap.size (fun _ => True) v0_ r ∧ Below w.heap.size w w' := by
 have hlim : l0.length * 32 ≤ 140737488355328 := by
  by_cases hx : l0.length * 32 ≤ 140737488355328
  ·exact hx
  ·rw [api_Pair_101.f, if_neg hx] at h; cases h
 rw [api_Pair_101.f, if_pos hlim] at h;obtain rfl := Option.some.inj h;clear h;have HR := Aside0.mk hr0;have LM := Aside0.mk hlim;clear hlim hc0;have hq := fun (W : World) (a : Option Addr) (n c n' c' : Nat) => Lib.run_eql_slice_nil (P := Tryz.prog) W 31 59 a n c n' c' Tryz.underlying31
 cases A0 with
 | none =>
  have h0 : l0 = [] := by
   rcases Nat.eq_zero_or_pos l0.length with h0 | h0
   ·exact List.eq_nil_of_length_eq_zero h0
   ·obtain ⟨ad, he, _⟩ := hr0.2.2 h0
    cases he
  subst h0;clear hr0 HR;go_enter Tryz.func101, Tryz.ntmps101;go_wp2;go_ret;exact ⟨_, rfl, Kd.R_nil _ _ _ _ _, Below.refl _ _⟩
 | some ad =>
  clear hr0;go_enter Tryz.func101, Tryz.ntmps101;go_wp2_with (at_builtin; refine Kd.R_append_rows k59 (w0 := w) w.heap.size rfl (.tmp 5) (.tmp 6) 31 59 (.agg #[(.string ⟨#[]⟩), (.string ⟨#[]⟩)]) 32 rfl Tryz.underlying31 info59 rfl (by decide) (by decide) (.slice (some ⟨w.heap.size, 0, none⟩) 0 0) [] l0 (some ad) l0.length c0 (fun _ => True) (fun _ => False) rfl rfl ?aO ?aR (fun _ _ h => h) (fun _ h => h.elim) (fun _ _ => trivial) ?aB ?aS ?aL ?_; (case aO => exact ⟨fun _ _ => trivial, [], World.ownsRow_made w #[] 0 (Nat.le_refl _) (Nat.zero_le _) (by simp), Reps.none _ _⟩); (case aR => exact Kd.C_alloc HR.out _); (case aB => exact (Below.refl _ w).alloc (Nat.le_refl _) _); (case aS => simp); (case aL => have := LM.out; simp; omega); intro v1 w1 ho hb hg hat; rw [List.nil_append] at ho; have n0_ := Aside0.mk ho; have n1_ := Aside0.mk hb; clear ho hb hg hat);go_ret;exact ⟨_, rfl, n0_.out, n1_.out⟩

/-! ### pairs_Add: function 85 -/
def pairs_Add.f (l0 : List (S59)) (a1 : ByteArray) (a2 : ByteArray) : Option ((List (S59))) := (api_Pair_101.f l0).bind fun t190 => (if t190.length < 4398046511104 then (some (t190 ++ [(⟨a1, a2⟩ : S59)])) else (none))
set_option maxHeartbeats 8000000 in
set_option maxRecDepth 100000 in
theorem pairs_Add.calls (A0 : Option Addr) (c0 : Nat) (l0 : List (S59)) (a1 : ByteArray) (a2 : ByteArray) (r : List (S59)) (w : World) (hr0 : Kd.C k59 w A0 l0.length l0) (hc0 : l0.length ≤ c0) (h : pairs_Add.f l0 a1 a2 = some r) :
  Calls Tryz.prog 85 #[.slice A0 l0.length c0, .string a1, .string a2] w fun e w' => ∃ v0_ : Value, e = .returned (v0_) ∧ Kd.R k59 59 w' w.heap.size (fun _ => True) v0_ r ∧ Below w.heap.size w w' := by
 have hu59 := Tryz.underlying59;have HR0 := Aside0.mk hr0;have HC0 := Aside0.mk hc0;clear hr0 hc0;have HB := am_ (Below.refl w.heap.size w);have H : ((api_Pair_101.f l0).bind fun pa => (if pa.length < 4398046511104 then (some (pa ++ [(⟨a1, a2⟩ : S59)])) else (none))) = some r := h;clear h;obtain ⟨pa, A4, H⟩ := bnd_ H;by_cases c5 : pa.length < 4398046511104
 ·rw [if_pos c5] at H
  have pd := Aside0.mk c5;clear c5;obtain ⟨pe, hy193⟩ : ∃ y_ : List (S59), y_ = (pa ++ [(⟨a1, a2⟩ : S59)]) := ⟨_, rfl⟩;replace H : (some pe) = some r := by first | (rw [hy193]; with_reducible exact H) | (have H2_ := (Option.bind_some _ _).symm.trans H; rw [hy193]; with_reducible exact H2_) | (have H2_ := (Option.bind_some _ _).symm.trans H; with_reducible exact H2_) | with_reducible exact H | (rw [hy193]; exact H) | exact H
  have pf := Aside0.mk hy193;clear hy193;obtain rfl := Option.some.inj H;go_enter Tryz.func85, Tryz.ntmps85;go_wp2_with (first | ((with_reducible refine gate_callee (f := 101) rfl ?_); refine goesL_ (some 8) rfl rfl Tryz.func101 kr_ rfl #[.slice A0 l0.length c0] rfl rl_ ?_; (with_reducible refine (api_Pair_101.calls _ _ l0 pa _ ?side1 ?side2 A4.out).mono ?_); (case side1 => exact C_ HR0.out); (case side2 => exact HC0.out); rintro e w6 ⟨pg, rfl, ho0, hb⟩; refine ⟨_, rfl, ?_⟩; have pc := am_ (Kd.R_lower ho0 (below_size (bel_ HB.out))); replace HB := bs_ HB hb; (try clear hb ho0)) | ((with_reducible refine gate_builtin (b := .append) (xs := #[.tmp 8, .tmp 12]) rfl ?_); at_builtin; refine Kd.R_append k59 (w0 := w) w.heap.size rfl (.tmp 8) (.tmp 12) 31 59 (.agg #[(.string ⟨#[]⟩), (.string ⟨#[]⟩)]) 32 rfl Tryz.underlying31 info59 rfl (by decide) (by omega) pg pa (⟨a1, a2⟩ : S59) [.string a1, .string a2] (fun _ => True) (fun _ => False) rfl rfl ?aP (fun _ hk => hk.elim) ?aF ?aO ?aB ?aS ?aL ?_; (case aP => exact k59_mkM _ _ _ (⟨a1, a2⟩ : S59)); (case aB => exact (bel_ HB.out)); (case aF => exact (fun _ _ => trivial)); (case aO => exact (R_ pc.out)); (case aS => exact (below_size (bel_ HB.out))); (case aL => have := pd.out; omega); intro pi w7 ho hb hg hat; rw [← pf.out] at ho; replace HB := am_ (hb); have ph := am_ (ho); clear pc ho hb hg hat));go_ret;exact ⟨_, by first | rfl | (simp [errW_none, errW_some] <;> rfl) | (simp [*, errW_none, errW_some] <;> rfl), by (with_reducible repeat (first | apply Kd.R_alloc | apply Kd.R_drewN | apply Kd.R_drew)); exact ph.out, bel_ HB.out⟩
 ·rw [if_neg c5] at H
  cases H

end Go.Proofs.YtfdopmjgiakcdaaGreatDoor.P
