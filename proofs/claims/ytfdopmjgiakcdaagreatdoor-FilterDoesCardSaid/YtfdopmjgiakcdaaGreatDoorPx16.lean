-- written by wip/tool/hprint.py of this repo: the kit's print, with contracts by hand joined; Lean checks it.
import Derived.Test.YtfdopmjgiakcdaaGreatDoorPx0
import Derived.Test.YtfdopmjgiakcdaaGreatDoorPx11
import Derived.Test.YtfdopmjgiakcdaaGreatDoorPx15
namespace Go.Proofs.YtfdopmjgiakcdaaGreatDoor.P
open Go.RowKit Go.Proofs.YtfdopmjgiakcdaaGreatDoorW.PrintWords Go.Proofs.YtfdopmjgiakcdaaGreatDoorW.PrintLast Go.Proofs.YtfdopmjgiakcdaaGreatDoorW.PrintMore
attribute [local go_sem] max2_int min2_int max_two min_two max_three min_three max_four min_four   -- for this text's walks alone
set_option linter.unusedVariables false
set_option linter.unusedSimpArgs false

/-! ### tollref07_All: function 13 -/
mutual
def tollref07_All.l0 : Nat → List (S26) → Int → Int → Option (Bool)
 | 0, _, _, _ => none
 | k + 1, x0, x3, x4 => if x4 < (x0.length : Int) then (if 0 ≤ x4 then ((tollref07_May.f k ((rd_T26 x0 x4).f0) ((rd_T26 x0 x4).f1) ((rd_T26 x0 x4).f2) ((rd_T26 x0 x4).f3) ((rd_T26 x0 x4).f4) ((rd_T26 x0 x4).f5) ((rd_T26 x0 x4).f6) ((rd_T26 x0 x4).f7)).bind fun t179 => (if t179 = true then (if ((rd_T26 x0 x4).f0) > 3 then (tollref07_All.j1 k x0 (wrap64 (x3 + 1)) x4) else (tollref07_All.j1 k x0 x3 x4)) else (some false))) else (none)) else (if x3 ≤ 1 then (some (decide ((x0.length : Int) ≤ 8))) else (some false))
def tollref07_All.j1 : Nat → List (S26) → Int → Int → Option (Bool)
 | 0, _, _, _ => none
 | k + 1, x0, x3, x4 => tollref07_All.l1 k x0 x3 x4 0
def tollref07_All.l1 : Nat → List (S26) → Int → Int → Int → Option (Bool)
 | 0, _, _, _, _ => none
 | k + 1, x0, x3, x4, x5 => if x5 < x4 then (if 0 ≤ x5 then (if x5 < (x0.length : Int) then (if 0 ≤ x4 then (if x4 < (x0.length : Int) then (if ((rd_T26 x0 x5).f0) = ((rd_T26 x0 x4).f0) then ((tollref05_Same.f k ((rd_T26 x0 x5).f1) ((rd_T26 x0 x4).f1)).bind fun t185 => (if t185 = true then (some false) else (tollref07_All.l1 k x0 x3 x4 (wrap64 (x5 + 1))))) else (tollref07_All.l1 k x0 x3 x4 (wrap64 (x5 + 1)))) else (none)) else (none)) else (none)) else (none)) else (tollref07_All.l0 k x0 x3 (wrap64 (x4 + 1)))
end
def tollref07_All.f (k : Nat) (l0 : List (S26)) : Option (Bool) := tollref07_All.l0 k l0 0 0
theorem tollref07_All.mono_l : ∀ k, (∀ y0 y1 y2, LeO (tollref07_All.l0 k y0 y1 y2) (tollref07_All.l0 (k + 1) y0 y1 y2)) ∧ (∀ y0 y1 y2, LeO (tollref07_All.j1 k y0 y1 y2) (tollref07_All.j1 (k + 1) y0 y1 y2)) ∧ (∀ y0 y1 y2 y3, LeO (tollref07_All.l1 k y0 y1 y2 y3) (tollref07_All.l1 (k + 1) y0 y1 y2 y3))
 | 0 => ⟨fun _ _ _ r h => by simp [tollref07_All.l0] at h, fun _ _ _ r h => by simp [tollref07_All.j1] at h, fun _ _ _ _ r h => by simp [tollref07_All.l1] at h⟩
 | k + 1 => by
  obtain ⟨ih0, ih1, ih2⟩ := tollref07_All.mono_l k
  refine ⟨?_, ?_, ?_⟩
  ·intro y0 y1 y2
   unfold tollref07_All.l0
   repeat' with_reducible first | apply ih0 | apply ih1 | apply ih2 | apply tollref05_Same.mono | apply tollref07_May.mono | apply LeO.refl | apply LeO.none | apply LeO.ite | refine LeO.bind ?_ fun _ => ?_
  ·intro y0 y1 y2
   unfold tollref07_All.j1
   repeat' with_reducible first | apply ih0 | apply ih1 | apply ih2 | apply tollref05_Same.mono | apply tollref07_May.mono | apply LeO.refl | apply LeO.none | apply LeO.ite | refine LeO.bind ?_ fun _ => ?_
  ·intro y0 y1 y2 y3
   unfold tollref07_All.l1
   repeat' with_reducible first | apply ih0 | apply ih1 | apply ih2 | apply tollref05_Same.mono | apply tollref07_May.mono | apply LeO.refl | apply LeO.none | apply LeO.ite | refine LeO.bind ?_ fun _ => ?_
theorem tollref07_All.mono : ∀ a0 k, LeO (tollref07_All.f k a0) (tollref07_All.f (k + 1) a0) := by
 intro a0 k
 obtain ⟨ih0, ih1, ih2⟩ := tollref07_All.mono_l k
 unfold tollref07_All.f
 repeat' with_reducible first | apply ih0 | apply ih1 | apply ih2 | apply tollref05_Same.mono | apply tollref07_May.mono | apply LeO.refl | apply LeO.none | apply LeO.ite | refine LeO.bind ?_ fun _ => ?_
def tollref07_All.T12 : Bool × List (List Nat × List Nat) := (true, [([], []), ([], []), ([0, 1], [0, 1]), ([2], [2]), ([3], [3]), ([], []), ([], []), ([5, 6], [5, 6]), ([7], [7]), ([8], [8]), ([4, 9], [4, 9]), ([10], [10]), ([11], [11]), ([11], [11]), ([12, 13, 11], [11, 12, 13]), ([14, 11], [11, 14]), ([15, 11], [11, 15]), ([11], [11]), ([11], [11]), ([17, 18, 11], [11, 17, 18]), ([19, 11], [11, 19]), ([20, 11], [11, 20]), ([16, 21, 11, 11], [11, 16, 21]), ([11, 22], [11, 22])])
def tollref07_All.B12 : List Nat := [0, 0, 3, 7, 15, 0, 0, 96, 224, 480, 1023, 2047, 4095, 4095, 16383, 32767, 65535, 4095, 4095, 397311, 921599, 1970175, 4194303, 8388607]
theorem tollref07_All.tab12 : rtab .any (opsOf Tryz.f13 12) = tollref07_All.T12 := by kernel_rfl
theorem tollref07_All.bits12 : waitsOk tollref07_All.T12.2 tollref07_All.B12 = true := by kernel_rfl
set_option maxHeartbeats 6000000 in
set_option maxRecDepth 100000 in
theorem tollref07_All.calls (k : Nat) (A0 : Option Addr) (c0 : Nat) (l0 : List (S26)) (r : Bool) (w : World) (hr0 : Kd.C k26 w A0 l0.length l0) (hc0 : l0.length ≤ c0) (h : tollref07_All.f k l0 = some r) :
  Calls Tryz.prog 13 #[.slice A0 l0.length c0] w fun e w' => e = .returned (.bool r) ∧ Below w.heap.size w w' := by
 have hu26 := Tryz.underlying26;have HR0 := Aside0.mk hr0;have HC0 := Aside0.mk hc0;clear hr0 hc0;have HB := am_ (Below.refl w.heap.size w);have H : (tollref07_All.l0 k l0 0 0) = some r := h;clear h;have H' := Aside0.mk H;clear H;go_enter Tryz.func13, Tryz.ntmps13;go_wp2;go_loopg [3, 4] k (fun kq v3 v4 w' => ∃ (qo : Int) (pa : Int), v3 = .int .i64 qo ∧ v4 = .int .i64 pa ∧ Aside0 (tollref07_All.l0 kq l0 qo pa = some r) ∧ Aside0 (kq ≤ k) ∧ Aside0 (Below w.heap.size w w'))
 case atStart => exact ⟨(0), (0), sd_, sd_, H', ⟨Nat.le_refl _⟩, ⟨bel_ HB.out⟩⟩
 case round =>
  clear H';obtain ⟨qo, pa, rfl, rfl, HA, HK1, HB⟩ := hrel;cases gk with
  | zero => exact absurd HA.out (by simp [tollref07_All.l0])
  | succ k1 =>
   have H := HA.out;clear HA;simp only [tollref07_All.l0] at H;by_cases c2 : pa < (l0.length : Int)
   ·rw [if_pos c2] at H
    have qB := decide_eq_true c2;clear c2;by_cases c3 : 0 ≤ pa
    ·rw [if_pos c3] at H
     have qE := decide_eq_true c3;clear c3;obtain ⟨qF, A4, H⟩ := bnd_ H;by_cases c5 : qF = true
     ·subst c5
      replace H := ift_ H;have HC6 := Aside0.mk H;clear H;have p178 : 0 ≤ (pa : Int) := of_decide_eq_true as_;have q178 : pa < (l0.length : Int) := of_decide_eq_true as_;obtain ⟨pb, e178, qg, qh, qi, qj, qk, ql, qm, qn⟩ := at_T26 HR0.out pa p178 q178;cases e178
      replace qg := hbc_ HB qg;replace qh := hbc_ HB qh;replace qi := hbc_ HB qi;replace qj := hbc_ HB qj;replace qk := hbc_ HB qk;replace ql := hbc_ HB ql;replace qm := hbc_ HB qm;replace qn := hbc_ HB qn;replace p178 := eq_true p178;replace q178 := eq_true q178;go_upto_if 23 with (first | ((with_reducible refine gate_callee (f := 11) rfl ?_); refine goesL_ (some 16) rfl rfl Tryz.func11 kr_ rfl #[.agg #[.int .i64 ((rd_T26 l0 pa).f0), .string ((rd_T26 l0 pa).f1), .string ((rd_T26 l0 pa).f2), .string ((rd_T26 l0 pa).f3), .int .i64 ((rd_T26 l0 pa).f4), .string ((rd_T26 l0 pa).f5), .bool ((rd_T26 l0 pa).f6), .int .i64 ((rd_T26 l0 pa).f7)]] rfl rl_ ?_; (with_reducible refine (tollref07_May.calls k1 ((rd_T26 l0 pa).f0) ((rd_T26 l0 pa).f1) ((rd_T26 l0 pa).f2) ((rd_T26 l0 pa).f3) ((rd_T26 l0 pa).f4) ((rd_T26 l0 pa).f5) ((rd_T26 l0 pa).f6) ((rd_T26 l0 pa).f7) true _ A4.out).mono ?_); rintro e w7 ⟨rfl, hb⟩; refine ⟨_, rfl, ?_⟩; replace HB := bs_ HB hb; (try clear hb); have p180 : 0 ≤ (pa : Int) := of_decide_eq_true as_; have q180 : pa < (l0.length : Int) := of_decide_eq_true as_; obtain ⟨qG, e180, qt, qu, qv, qw, qx, qy, qz, qA⟩ := at_T26 HR0.out pa p180 q180; obtain rfl : pb = qG := (by injection e180); replace qt := hbc_ HB qt; replace qu := hbc_ HB qu; replace qv := hbc_ HB qv; replace qw := hbc_ HB qw; replace qx := hbc_ HB qx; replace qy := hbc_ HB qy; replace qz := hbc_ HB qz; replace qA := hbc_ HB qA; replace p180 := eq_true p180; replace q180 := eq_true q180))
      (try simp only [Act.put, List.setIfInBounds_toArray, List.set_cons_zero, List.set_cons_succ]);go_cut [3] (fun v3 wc => ∃ (kq : Nat) (qp : Int), v3 = .int .i64 qp ∧ Aside0 (tollref07_All.j1 kq l0 qp pa = some r) ∧ Aside0 (kq ≤ k1) ∧ Aside0 (Below w.heap.size w wc))
      case first =>
       have H := HC6.out;clear HC6;by_cases c8 : ((rd_T26 l0 pa).f0) > 3
       ·rw [if_pos c8] at H
        have qq := decide_eq_true c8;clear c8;(first | rw [qq] | rw [qH] | rw [qI] | (simp only [i64_w, i32_w]; rw [qq]) | skip);have H' := Aside0.mk H;clear H;go_wp2;go_meet
        case rel => exact ⟨_, (wrap64 (qo + 1)), sd_, H', ⟨le1_ HK1.out⟩, ⟨bel_ HB.out⟩⟩
       ·rw [if_neg c8] at H
        have qq := decide_eq_false c8;clear c8;(first | rw [qq] | rw [qH] | rw [qI] | (simp only [i64_w, i32_w]; rw [qq]) | skip);have H' := Aside0.mk H;clear H;go_wp2;go_meet
        case rel => exact ⟨_, (qo), sd_, H', ⟨le1_ HK1.out⟩, ⟨bel_ HB.out⟩⟩
      case rest =>
       clear HC6;try clear qB qE c5 qg qh qi qj qk ql qm qn qt qu qv qw qx qy qz qA p178 p180 q178 q180
       obtain ⟨kq, qp, rfl, HA, HJ5, HB⟩ := hcut;cases kq with
       | zero => exact absurd HA.out (by simp [tollref07_All.j1])
       | succ kj5 =>
        have H := HA.out;clear HA;simp only [tollref07_All.j1] at H;have H' := Aside0.mk H;clear H;go_wp2;go_loopg [5] kj5 (fun kq v5 w' => ∃ (pc : Int), v5 = .int .i64 pc ∧ Aside0 (tollref07_All.l1 kq l0 qp pa pc = some r) ∧ Aside0 (kq ≤ kj5) ∧ Aside0 (Below w.heap.size w w'))
        case atStart => exact ⟨(0), sd_, H', ⟨Nat.le_refl _⟩, ⟨bel_ HB.out⟩⟩
        case round =>
         clear H';try clear qB qE c5 qg qh qi qj qk ql qm qn qt qu qv qw qx qy qz qA p178 p180 q178 q180
         obtain ⟨pc, rfl, HA, HK3, HB⟩ := hrel;cases gk with
         | zero => exact absurd HA.out (by simp [tollref07_All.l1])
         | succ k3 =>
          have H := HA.out;clear HA;simp only [tollref07_All.l1] at H;by_cases c9 : pc < pa
          ·rw [if_pos c9] at H
           have qJ := decide_eq_true c9;clear c9;by_cases c10 : 0 ≤ pc
           ·rw [if_pos c10] at H
            have qO := decide_eq_true c10;clear c10;by_cases c11 : pc < (l0.length : Int)
            ·rw [if_pos c11] at H
             have qP := decide_eq_true c11;clear c11;by_cases c12 : 0 ≤ pa
             ·rw [if_pos c12] at H
              have qQ := decide_eq_true c12;clear c12;by_cases c13 : pa < (l0.length : Int)
              ·rw [if_pos c13] at H
               have qR := decide_eq_true c13;clear c13;by_cases c14 : ((rd_T26 l0 pc).f0) = ((rd_T26 l0 pa).f0)
               ·rw [if_pos c14] at H
                have qK := eqb_ c14;have qL := neb_ c14;clear c14;obtain ⟨qM, A15, H⟩ := bnd_ H;by_cases c16 : qM = true
                ·subst c16
                 replace H := ift_ H;obtain rfl := Option.some.inj H;try go_wp2
                 replace HB := am_ (below_drew1 HB.out);have p181 : 0 ≤ (pc : Int) := of_decide_eq_true as_;have q181 : pc < (l0.length : Int) := of_decide_eq_true as_;obtain ⟨qr, e181, pd, pe, pf, pg, ph, pi, pj, pk⟩ := at_T26 HR0.out pc p181 q181;have pt := pk;have pu := pj;have pv := pi;have pw := ph;have px := pg;have pz := pf;have pA := pe;have pB := pd;obtain rfl : pb = qr := (by injection e181);replace pd := hbc_ HB pd;replace pe := hbc_ HB pe;replace pf := hbc_ HB pf;replace pg := hbc_ HB pg;replace ph := hbc_ HB ph;replace pi := hbc_ HB pi;replace pj := hbc_ HB pj;replace pk := hbc_ HB pk;replace p181 := eq_true p181;replace q181 := eq_true q181;have p182 : 0 ≤ (pa : Int) := of_decide_eq_true as_;have q182 : pa < (l0.length : Int) := of_decide_eq_true as_;obtain ⟨qs, e182, pl, pm, pn, po, pp, pq, pr, ps⟩ := at_T26 HR0.out pa p182 q182;have pC := ps;have pD := pr;have pE := pq;have pF := pp;have pG := po;have pH := pn;have pI := pm;have pJ := pl;obtain rfl : pb = qs := (by injection e182);replace pl := hbc_ HB pl;replace pm := hbc_ HB pm;replace pn := hbc_ HB pn;replace po := hbc_ HB po;replace pp := hbc_ HB pp;replace pq := hbc_ HB pq;replace pr := hbc_ HB pr;replace ps := hbc_ HB ps;replace p182 := eq_true p182;replace q182 := eq_true q182;have p183 : 0 ≤ (pc : Int) := of_decide_eq_true as_;have q183 : pc < (l0.length : Int) := of_decide_eq_true as_;obtain ⟨qC, e183, pK, pL, pM, pN, pO, pP, pQ, pR⟩ := at_T26 HR0.out pc p183 q183;have pS := pR;have pT := pQ;have pU := pP;have pV := pO;have pW := pN;have pX := pM;have pY := pL;have pZ := pK;obtain rfl : pb = qC := (by injection e183);replace pK := hbc_ HB pK;replace pL := hbc_ HB pL;replace pM := hbc_ HB pM;replace pN := hbc_ HB pN;replace pO := hbc_ HB pO;replace pP := hbc_ HB pP;replace pQ := hbc_ HB pQ;replace pR := hbc_ HB pR;replace p183 := eq_true p183;replace q183 := eq_true q183;have p184 : 0 ≤ (pa : Int) := of_decide_eq_true as_;have q184 : pa < (l0.length : Int) := of_decide_eq_true as_;obtain ⟨qD, e184, p0, p1, p2, p3, p4, p5, p6, p7⟩ := at_T26 HR0.out pa p184 q184;have p8 := p7;have p9 := p6;have qa := p5;have qb := p4;have qc := p3;have qd := p2;have qe := p1;have qf := p0;obtain rfl : pb = qD := (by injection e184);replace p0 := hbc_ HB p0;replace p1 := hbc_ HB p1;replace p2 := hbc_ HB p2;replace p3 := hbc_ HB p3;replace p4 := hbc_ HB p4;replace p5 := hbc_ HB p5;replace p6 := hbc_ HB p6;replace p7 := hbc_ HB p7;replace p184 := eq_true p184;replace q184 := eq_true q184;refine start_ (n := 24) (S := fun w' => w'.cell? (pb.add ((pc).toNat * 8)) = some (.int .i64 ((rd_T26 l0 pc).f0)) ∧ w'.cell? ⟨(pb.add ((pc).toNat * 8)).block, (pb.add ((pc).toNat * 8)).off + 1, none⟩ = some (.string ((rd_T26 l0 pc).f1)) ∧ w'.cell? ⟨(pb.add ((pc).toNat * 8)).block, (pb.add ((pc).toNat * 8)).off + 2, none⟩ = some (.string ((rd_T26 l0 pc).f2)) ∧ w'.cell? ⟨(pb.add ((pc).toNat * 8)).block, (pb.add ((pc).toNat * 8)).off + 3, none⟩ = some (.string ((rd_T26 l0 pc).f3)) ∧ w'.cell? ⟨(pb.add ((pc).toNat * 8)).block, (pb.add ((pc).toNat * 8)).off + 4, none⟩ = some (.int .i64 ((rd_T26 l0 pc).f4)) ∧ w'.cell? ⟨(pb.add ((pc).toNat * 8)).block, (pb.add ((pc).toNat * 8)).off + 5, none⟩ = some (.string ((rd_T26 l0 pc).f5)) ∧ w'.cell? ⟨(pb.add ((pc).toNat * 8)).block, (pb.add ((pc).toNat * 8)).off + 6, none⟩ = some (.bool ((rd_T26 l0 pc).f6)) ∧ w'.cell? ⟨(pb.add ((pc).toNat * 8)).block, (pb.add ((pc).toNat * 8)).off + 7, none⟩ = some (.int .i64 ((rd_T26 l0 pc).f7)) ∧ w'.cell? (pb.add ((pa).toNat * 8)) = some (.int .i64 ((rd_T26 l0 pa).f0)) ∧ w'.cell? ⟨(pb.add ((pa).toNat * 8)).block, (pb.add ((pa).toNat * 8)).off + 1, none⟩ = some (.string ((rd_T26 l0 pa).f1)) ∧ w'.cell? ⟨(pb.add ((pa).toNat * 8)).block, (pb.add ((pa).toNat * 8)).off + 2, none⟩ = some (.string ((rd_T26 l0 pa).f2)) ∧ w'.cell? ⟨(pb.add ((pa).toNat * 8)).block, (pb.add ((pa).toNat * 8)).off + 3, none⟩ = some (.string ((rd_T26 l0 pa).f3)) ∧ w'.cell? ⟨(pb.add ((pa).toNat * 8)).block, (pb.add ((pa).toNat * 8)).off + 4, none⟩ = some (.int .i64 ((rd_T26 l0 pa).f4)) ∧ w'.cell? ⟨(pb.add ((pa).toNat * 8)).block, (pb.add ((pa).toNat * 8)).off + 5, none⟩ = some (.string ((rd_T26 l0 pa).f5)) ∧ w'.cell? ⟨(pb.add ((pa).toNat * 8)).block, (pb.add ((pa).toNat * 8)).off + 6, none⟩ = some (.bool ((rd_T26 l0 pa).f6)) ∧ w'.cell? ⟨(pb.add ((pa).toNat * 8)).block, (pb.add ((pa).toNat * 8)).off + 7, none⟩ = some (.int .i64 ((rd_T26 l0 pa).f7)) ∧ w'.cell? (pb.add ((pc).toNat * 8)) = some (.int .i64 ((rd_T26 l0 pc).f0)) ∧ w'.cell? ⟨(pb.add ((pc).toNat * 8)).block, (pb.add ((pc).toNat * 8)).off + 1, none⟩ = some (.string ((rd_T26 l0 pc).f1)) ∧ w'.cell? ⟨(pb.add ((pc).toNat * 8)).block, (pb.add ((pc).toNat * 8)).off + 2, none⟩ = some (.string ((rd_T26 l0 pc).f2)) ∧ w'.cell? ⟨(pb.add ((pc).toNat * 8)).block, (pb.add ((pc).toNat * 8)).off + 3, none⟩ = some (.string ((rd_T26 l0 pc).f3)) ∧ w'.cell? ⟨(pb.add ((pc).toNat * 8)).block, (pb.add ((pc).toNat * 8)).off + 4, none⟩ = some (.int .i64 ((rd_T26 l0 pc).f4)) ∧ w'.cell? ⟨(pb.add ((pc).toNat * 8)).block, (pb.add ((pc).toNat * 8)).off + 5, none⟩ = some (.string ((rd_T26 l0 pc).f5)) ∧ w'.cell? ⟨(pb.add ((pc).toNat * 8)).block, (pb.add ((pc).toNat * 8)).off + 6, none⟩ = some (.bool ((rd_T26 l0 pc).f6)) ∧ w'.cell? ⟨(pb.add ((pc).toNat * 8)).block, (pb.add ((pc).toNat * 8)).off + 7, none⟩ = some (.int .i64 ((rd_T26 l0 pc).f7)) ∧ w'.cell? (pb.add ((pa).toNat * 8)) = some (.int .i64 ((rd_T26 l0 pa).f0)) ∧ w'.cell? ⟨(pb.add ((pa).toNat * 8)).block, (pb.add ((pa).toNat * 8)).off + 1, none⟩ = some (.string ((rd_T26 l0 pa).f1)) ∧ w'.cell? ⟨(pb.add ((pa).toNat * 8)).block, (pb.add ((pa).toNat * 8)).off + 2, none⟩ = some (.string ((rd_T26 l0 pa).f2)) ∧ w'.cell? ⟨(pb.add ((pa).toNat * 8)).block, (pb.add ((pa).toNat * 8)).off + 3, none⟩ = some (.string ((rd_T26 l0 pa).f3)) ∧ w'.cell? ⟨(pb.add ((pa).toNat * 8)).block, (pb.add ((pa).toNat * 8)).off + 4, none⟩ = some (.int .i64 ((rd_T26 l0 pa).f4)) ∧ w'.cell? ⟨(pb.add ((pa).toNat * 8)).block, (pb.add ((pa).toNat * 8)).off + 5, none⟩ = some (.string ((rd_T26 l0 pa).f5)) ∧ w'.cell? ⟨(pb.add ((pa).toNat * 8)).block, (pb.add ((pa).toNat * 8)).off + 6, none⟩ = some (.bool ((rd_T26 l0 pa).f6)) ∧ w'.cell? ⟨(pb.add ((pa).toNat * 8)).block, (pb.add ((pa).toNat * 8)).off + 7, none⟩ = some (.int .i64 ((rd_T26 l0 pa).f7))) (ds := []) #[false, false, false, false, false, false, false, false, false, false, false, false, false, false, false, false, false, false, false, false, false, false, false, false] kr_ rfl rfl ⟨((HB.out.cell (World.block_lt_of_cell? w _ pB)).trans pB), ((HB.out.cell (World.block_lt_of_cell? w _ pA)).trans pA), ((HB.out.cell (World.block_lt_of_cell? w _ pz)).trans pz), ((HB.out.cell (World.block_lt_of_cell? w _ px)).trans px), ((HB.out.cell (World.block_lt_of_cell? w _ pw)).trans pw), ((HB.out.cell (World.block_lt_of_cell? w _ pv)).trans pv), ((HB.out.cell (World.block_lt_of_cell? w _ pu)).trans pu), ((HB.out.cell (World.block_lt_of_cell? w _ pt)).trans pt), ((HB.out.cell (World.block_lt_of_cell? w _ pJ)).trans pJ), ((HB.out.cell (World.block_lt_of_cell? w _ pI)).trans pI), ((HB.out.cell (World.block_lt_of_cell? w _ pH)).trans pH), ((HB.out.cell (World.block_lt_of_cell? w _ pG)).trans pG), ((HB.out.cell (World.block_lt_of_cell? w _ pF)).trans pF), ((HB.out.cell (World.block_lt_of_cell? w _ pE)).trans pE), ((HB.out.cell (World.block_lt_of_cell? w _ pD)).trans pD), ((HB.out.cell (World.block_lt_of_cell? w _ pC)).trans pC), ((HB.out.cell (World.block_lt_of_cell? w _ pZ)).trans pZ), ((HB.out.cell (World.block_lt_of_cell? w _ pY)).trans pY), ((HB.out.cell (World.block_lt_of_cell? w _ pX)).trans pX), ((HB.out.cell (World.block_lt_of_cell? w _ pW)).trans pW), ((HB.out.cell (World.block_lt_of_cell? w _ pV)).trans pV), ((HB.out.cell (World.block_lt_of_cell? w _ pU)).trans pU), ((HB.out.cell (World.block_lt_of_cell? w _ pT)).trans pT), ((HB.out.cell (World.block_lt_of_cell? w _ pS)).trans pS), ((HB.out.cell (World.block_lt_of_cell? w _ qf)).trans qf), ((HB.out.cell (World.block_lt_of_cell? w _ qe)).trans qe), ((HB.out.cell (World.block_lt_of_cell? w _ qd)).trans qd), ((HB.out.cell (World.block_lt_of_cell? w _ qc)).trans qc), ((HB.out.cell (World.block_lt_of_cell? w _ qb)).trans qb), ((HB.out.cell (World.block_lt_of_cell? w _ qa)).trans qa), ((HB.out.cell (World.block_lt_of_cell? w _ p9)).trans p9), ((HB.out.cell (World.block_lt_of_cell? w _ p8)).trans p8)⟩ (fun hHeld => ?_); refine with_tabW tollref07_All.tab12 tollref07_All.bits12 (fun HT_ HW_ => ?_);generalize wr.drew = w17 at HB pd pe pf pg ph pi pj pk pl pm pn po pp pq pr ps pK pL pM pN pO pP pQ pR p0 p1 p2 p3 p4 p5 p6 p7 hHeld ⊢;refine pur_ (i := 0) (N := some 31) (v := ?_) (a' := ?_) rfl rfl HT_ (fun _ _ _ h => h) (Or.inl ⟨by rfl, ?_⟩) ?_ ?_;rotate_left
                 ·intro w'
                  go_simp;(with_reducible rfl)
                 rotate_left
                 ·simp only [Act.put, sx_, s0_, s1_, i64_w, i32_w]
                  rfl
                 refine pur_ (i := 1) (N := some 32) (v := ?_) (a' := ?_) rfl rfl HT_ (fun _ _ _ h => h) (Or.inl ⟨by rfl, ?_⟩) ?_ ?_;rotate_left
                 ·intro w'
                  go_simp;(with_reducible rfl)
                 rotate_left
                 ·simp only [Act.put, sx_, s0_, s1_, i64_w, i32_w]
                  rfl
                 refine pur_ (i := 2) (N := some 33) (v := ?_) (a' := ?_) rfl rfl HT_ (fun _ _ _ h => h) (Or.inl ⟨by rfl, ?_⟩) ?_ ?_;rotate_left
                 ·intro w'
                  go_simp;(with_reducible rfl)
                 rotate_left
                 ·simp only [Act.put, sx_, s0_, s1_, i64_w, i32_w]
                  rfl
                 refine pur_ (i := 3) (N := some 34) (v := ?_) (a' := ?_) rfl rfl HT_ (fun _ _ _ h => h) (Or.inl ⟨by rfl, ?_⟩) ?_ ?_;rotate_left
                 ·intro w'
                  go_simp;(with_reducible rfl)
                 rotate_left
                 ·simp only [Act.put, sx_, s0_, s1_, i64_w, i32_w]
                  rfl
                 refine pur_ (i := 5) (N := some 36) (v := ?_) (a' := ?_) rfl rfl HT_ (fun _ _ _ h => h) (Or.inl ⟨by rfl, ?_⟩) ?_ ?_;rotate_left
                 ·intro w'
                  go_simp;(with_reducible rfl)
                 rotate_left
                 ·simp only [Act.put, sx_, s0_, s1_, i64_w, i32_w]
                  rfl
                 refine pur_ (i := 6) (N := some 37) (v := ?_) (a' := ?_) rfl rfl HT_ (fun _ _ _ h => h) (Or.inl ⟨by rfl, ?_⟩) ?_ ?_;rotate_left
                 ·intro w'
                  go_simp;(with_reducible rfl)
                 rotate_left
                 ·simp only [Act.put, sx_, s0_, s1_, i64_w, i32_w]
                  rfl
                 refine pur_ (i := 7) (N := some 38) (v := ?_) (a' := ?_) rfl rfl HT_ (fun _ _ _ h => h) (Or.inl ⟨by rfl, ?_⟩) ?_ ?_;rotate_left
                 ·intro w'
                  go_simp;(with_reducible rfl)
                 rotate_left
                 ·simp only [Act.put, sx_, s0_, s1_, i64_w, i32_w]
                  rfl
                 refine pur_ (i := 8) (N := some 39) (v := ?_) (a' := ?_) rfl rfl HT_ (fun _ _ _ h => h) (Or.inl ⟨by rfl, ?_⟩) ?_ ?_;rotate_left
                 ·intro w'
                  go_simp;(with_reducible rfl)
                 rotate_left
                 ·simp only [Act.put, sx_, s0_, s1_, i64_w, i32_w]
                  rfl
                 refine tak_ (i := 4) (N := some 35) (v := ?_) (a' := ?_) rfl rfl HT_ HW_ (fun _ _ _ h => h) (Or.inl ⟨by rfl, ?_⟩) hHeld ?_ ?_;rotate_left
                 ·rintro w' ⟨s0, s1, s2, s3, s4, s5, s6, s7, s8, s9, s10, s11, s12, s13, s14, s15, s16, s17, s18, s19, s20, s21, s22, s23, s24, s25, s26, s27, s28, s29, s30, s31⟩
                  go_simp;(with_reducible rfl)
                 rotate_left
                 ·simp only [Act.put, sx_, s0_, s1_, i64_w, i32_w]
                  rfl
                 refine tak_ (i := 9) (N := some 40) (v := ?_) (a' := ?_) rfl rfl HT_ HW_ (fun _ _ _ h => h) (Or.inl ⟨by rfl, ?_⟩) hHeld ?_ ?_;rotate_left
                 ·rintro w' ⟨s0, s1, s2, s3, s4, s5, s6, s7, s8, s9, s10, s11, s12, s13, s14, s15, s16, s17, s18, s19, s20, s21, s22, s23, s24, s25, s26, s27, s28, s29, s30, s31⟩
                  go_simp;(with_reducible rfl)
                 rotate_left
                 ·simp only [Act.put, sx_, s0_, s1_, i64_w, i32_w]
                  rfl
                 refine pur_ (i := 10) (N := some 41) (v := ?_) (a' := ?_) rfl rfl HT_ (fun _ _ _ h => h) (Or.inl ⟨by rfl, ?_⟩) ?_ ?_;rotate_left
                 ·intro w'
                  go_simp;(with_reducible rfl)
                 rotate_left
                 ·simp only [Act.put, sx_, s0_, s1_, i64_w, i32_w]
                  rfl
                 refine pur_ (i := 11) (N := some 42) (v := ?_) (a' := ?_) rfl rfl HT_ (fun _ _ _ h => h) (Or.inl ⟨by rfl, ?_⟩) ?_ ?_;rotate_left
                 ·intro w'
                  go_simp;(with_reducible rfl)
                 rotate_left
                 ·simp only [Act.put, sx_, s0_, s1_, i64_w, i32_w]
                  rfl
                 refine pur_ (i := 12) (N := some 43) (v := ?_) (a' := ?_) rfl rfl HT_ (fun _ _ _ h => h) (Or.inl ⟨by rfl, ?_⟩) ?_ ?_;rotate_left
                 ·intro w'
                  go_simp;(with_reducible rfl)
                 rotate_left
                 ·simp only [Act.put, sx_, s0_, s1_, i64_w, i32_w]
                  rfl
                 refine pur_ (i := 13) (N := some 44) (v := ?_) (a' := ?_) rfl rfl HT_ (fun _ _ _ h => h) (Or.inl ⟨by rfl, ?_⟩) ?_ ?_;rotate_left
                 ·intro w'
                  go_simp;(with_reducible rfl)
                 rotate_left
                 ·simp only [Act.put, sx_, s0_, s1_, i64_w, i32_w]
                  rfl
                 refine pur_ (i := 14) (N := some 45) (v := ?_) (a' := ?_) rfl rfl HT_ (fun _ _ _ h => h) (Or.inl ⟨by rfl, ?_⟩) ?_ ?_;rotate_left
                 ·intro w'
                  go_simp;(with_reducible rfl)
                 rotate_left
                 ·simp only [Act.put, sx_, s0_, s1_, i64_w, i32_w]
                  rfl
                 refine pur_ (i := 15) (N := some 46) (v := ?_) (a' := ?_) rfl rfl HT_ (fun _ _ _ h => h) (Or.inl ⟨by rfl, ?_⟩) ?_ ?_;rotate_left
                 ·intro w'
                  go_simp;(with_reducible rfl)
                 rotate_left
                 ·simp only [Act.put, sx_, s0_, s1_, i64_w, i32_w]
                  rfl
                 refine pur_ (i := 17) (N := some 48) (v := ?_) (a' := ?_) rfl rfl HT_ (fun _ _ _ h => h) (Or.inl ⟨by rfl, ?_⟩) ?_ ?_;rotate_left
                 ·intro w'
                  go_simp;(with_reducible rfl)
                 rotate_left
                 ·simp only [Act.put, sx_, s0_, s1_, i64_w, i32_w]
                  rfl
                 refine pur_ (i := 18) (N := some 49) (v := ?_) (a' := ?_) rfl rfl HT_ (fun _ _ _ h => h) (Or.inl ⟨by rfl, ?_⟩) ?_ ?_;rotate_left
                 ·intro w'
                  go_simp;(with_reducible rfl)
                 rotate_left
                 ·simp only [Act.put, sx_, s0_, s1_, i64_w, i32_w]
                  rfl
                 refine pur_ (i := 19) (N := some 50) (v := ?_) (a' := ?_) rfl rfl HT_ (fun _ _ _ h => h) (Or.inl ⟨by rfl, ?_⟩) ?_ ?_;rotate_left
                 ·intro w'
                  go_simp;(with_reducible rfl)
                 rotate_left
                 ·simp only [Act.put, sx_, s0_, s1_, i64_w, i32_w]
                  rfl
                 refine pur_ (i := 20) (N := some 51) (v := ?_) (a' := ?_) rfl rfl HT_ (fun _ _ _ h => h) (Or.inl ⟨by rfl, ?_⟩) ?_ ?_;rotate_left
                 ·intro w'
                  go_simp;(with_reducible rfl)
                 rotate_left
                 ·simp only [Act.put, sx_, s0_, s1_, i64_w, i32_w]
                  rfl
                 refine tak_ (i := 16) (N := some 47) (v := ?_) (a' := ?_) rfl rfl HT_ HW_ (fun _ _ _ h => h) (Or.inl ⟨by rfl, ?_⟩) hHeld ?_ ?_;rotate_left
                 ·rintro w' ⟨s0, s1, s2, s3, s4, s5, s6, s7, s8, s9, s10, s11, s12, s13, s14, s15, s16, s17, s18, s19, s20, s21, s22, s23, s24, s25, s26, s27, s28, s29, s30, s31⟩
                  go_simp;(with_reducible rfl)
                 rotate_left
                 ·simp only [Act.put, sx_, s0_, s1_, i64_w, i32_w]
                  rfl
                 refine tak_ (i := 21) (N := some 52) (v := ?_) (a' := ?_) rfl rfl HT_ HW_ (fun _ _ _ h => h) (Or.inl ⟨by rfl, ?_⟩) hHeld ?_ ?_;rotate_left
                 ·rintro w' ⟨s0, s1, s2, s3, s4, s5, s6, s7, s8, s9, s10, s11, s12, s13, s14, s15, s16, s17, s18, s19, s20, s21, s22, s23, s24, s25, s26, s27, s28, s29, s30, s31⟩
                  go_simp;(with_reducible rfl)
                 rotate_left
                 ·simp only [Act.put, sx_, s0_, s1_, i64_w, i32_w]
                  rfl
                 refine ono_ (i := 22) (N := some 53) rfl rfl HT_ (by decide) (fun K hK => ?_);refine goes_ Tryz.func23 kr_ rfl #[.string ((rd_T26 l0 pc).f1), .string ((rd_T26 l0 pa).f1)] (by rfl) rfl rfl rl_ ?_;(with_reducible refine (tollref05_Same.calls k3 ((rd_T26 l0 pc).f1) ((rd_T26 l0 pa).f1) true _ A15.out).mono ?_);rintro e w18 ⟨rfl, hb⟩;refine ⟨_, rfl, ?_⟩;replace HB := bs_ HB hb;(try clear hb);(try clear hb2);(try clear hk);(try clear hi);refine hK.out _ _ ⟨((HB.out.cell (World.block_lt_of_cell? w _ pB)).trans pB), ((HB.out.cell (World.block_lt_of_cell? w _ pA)).trans pA), ((HB.out.cell (World.block_lt_of_cell? w _ pz)).trans pz), ((HB.out.cell (World.block_lt_of_cell? w _ px)).trans px), ((HB.out.cell (World.block_lt_of_cell? w _ pw)).trans pw), ((HB.out.cell (World.block_lt_of_cell? w _ pv)).trans pv), ((HB.out.cell (World.block_lt_of_cell? w _ pu)).trans pu), ((HB.out.cell (World.block_lt_of_cell? w _ pt)).trans pt), ((HB.out.cell (World.block_lt_of_cell? w _ pJ)).trans pJ), ((HB.out.cell (World.block_lt_of_cell? w _ pI)).trans pI), ((HB.out.cell (World.block_lt_of_cell? w _ pH)).trans pH), ((HB.out.cell (World.block_lt_of_cell? w _ pG)).trans pG), ((HB.out.cell (World.block_lt_of_cell? w _ pF)).trans pF), ((HB.out.cell (World.block_lt_of_cell? w _ pE)).trans pE), ((HB.out.cell (World.block_lt_of_cell? w _ pD)).trans pD), ((HB.out.cell (World.block_lt_of_cell? w _ pC)).trans pC), ((HB.out.cell (World.block_lt_of_cell? w _ pZ)).trans pZ), ((HB.out.cell (World.block_lt_of_cell? w _ pY)).trans pY), ((HB.out.cell (World.block_lt_of_cell? w _ pX)).trans pX), ((HB.out.cell (World.block_lt_of_cell? w _ pW)).trans pW), ((HB.out.cell (World.block_lt_of_cell? w _ pV)).trans pV), ((HB.out.cell (World.block_lt_of_cell? w _ pU)).trans pU), ((HB.out.cell (World.block_lt_of_cell? w _ pT)).trans pT), ((HB.out.cell (World.block_lt_of_cell? w _ pS)).trans pS), ((HB.out.cell (World.block_lt_of_cell? w _ qf)).trans qf), ((HB.out.cell (World.block_lt_of_cell? w _ qe)).trans qe), ((HB.out.cell (World.block_lt_of_cell? w _ qd)).trans qd), ((HB.out.cell (World.block_lt_of_cell? w _ qc)).trans qc), ((HB.out.cell (World.block_lt_of_cell? w _ qb)).trans qb), ((HB.out.cell (World.block_lt_of_cell? w _ qa)).trans qa), ((HB.out.cell (World.block_lt_of_cell? w _ p9)).trans p9), ((HB.out.cell (World.block_lt_of_cell? w _ p8)).trans p8)⟩ (fun hHeld => ?_);clear hK K;refine norm_ (a' := ?_) ?_ ?_;rotate_left
                 ·show Act.put _ (some 53) _ = _
                  simp only [Act.put, sx_, s0_, s1_, i64_w, i32_w];rfl
                 refine pur_ (i := 23) (N := some 54) (v := ?_) (a' := ?_) rfl rfl HT_ (fun _ _ _ h => h) (Or.inl ⟨by rfl, ?_⟩) ?_ ?_;rotate_left
                 ·intro w'
                  go_simp;(with_reducible rfl)
                 rotate_left
                 ·simp only [Act.put, sx_, s0_, s1_, i64_w, i32_w]
                  rfl
                 refine done_ (done_of HT_.out kr_) ?_;try go_wp2
                 go_ret;exact ⟨fi_, bel_ HB.out⟩
                ·replace c16 := Bool.eq_false_iff.mpr c16
                 subst c16;replace H := iff_ H;have H' := Aside0.mk H;clear H;try go_wp2
                 replace HB := am_ (below_drew1 HB.out);have p181 : 0 ≤ (pc : Int) := of_decide_eq_true as_;have q181 : pc < (l0.length : Int) := of_decide_eq_true as_;obtain ⟨qr, e181, pd, pe, pf, pg, ph, pi, pj, pk⟩ := at_T26 HR0.out pc p181 q181;have pt := pk;have pu := pj;have pv := pi;have pw := ph;have px := pg;have pz := pf;have pA := pe;have pB := pd;obtain rfl : pb = qr := (by injection e181);replace pd := hbc_ HB pd;replace pe := hbc_ HB pe;replace pf := hbc_ HB pf;replace pg := hbc_ HB pg;replace ph := hbc_ HB ph;replace pi := hbc_ HB pi;replace pj := hbc_ HB pj;replace pk := hbc_ HB pk;replace p181 := eq_true p181;replace q181 := eq_true q181;have p182 : 0 ≤ (pa : Int) := of_decide_eq_true as_;have q182 : pa < (l0.length : Int) := of_decide_eq_true as_;obtain ⟨qs, e182, pl, pm, pn, po, pp, pq, pr, ps⟩ := at_T26 HR0.out pa p182 q182;have pC := ps;have pD := pr;have pE := pq;have pF := pp;have pG := po;have pH := pn;have pI := pm;have pJ := pl;obtain rfl : pb = qs := (by injection e182);replace pl := hbc_ HB pl;replace pm := hbc_ HB pm;replace pn := hbc_ HB pn;replace po := hbc_ HB po;replace pp := hbc_ HB pp;replace pq := hbc_ HB pq;replace pr := hbc_ HB pr;replace ps := hbc_ HB ps;replace p182 := eq_true p182;replace q182 := eq_true q182;have p183 : 0 ≤ (pc : Int) := of_decide_eq_true as_;have q183 : pc < (l0.length : Int) := of_decide_eq_true as_;obtain ⟨qC, e183, pK, pL, pM, pN, pO, pP, pQ, pR⟩ := at_T26 HR0.out pc p183 q183;have pS := pR;have pT := pQ;have pU := pP;have pV := pO;have pW := pN;have pX := pM;have pY := pL;have pZ := pK;obtain rfl : pb = qC := (by injection e183);replace pK := hbc_ HB pK;replace pL := hbc_ HB pL;replace pM := hbc_ HB pM;replace pN := hbc_ HB pN;replace pO := hbc_ HB pO;replace pP := hbc_ HB pP;replace pQ := hbc_ HB pQ;replace pR := hbc_ HB pR;replace p183 := eq_true p183;replace q183 := eq_true q183;have p184 : 0 ≤ (pa : Int) := of_decide_eq_true as_;have q184 : pa < (l0.length : Int) := of_decide_eq_true as_;obtain ⟨qD, e184, p0, p1, p2, p3, p4, p5, p6, p7⟩ := at_T26 HR0.out pa p184 q184;have p8 := p7;have p9 := p6;have qa := p5;have qb := p4;have qc := p3;have qd := p2;have qe := p1;have qf := p0;obtain rfl : pb = qD := (by injection e184);replace p0 := hbc_ HB p0;replace p1 := hbc_ HB p1;replace p2 := hbc_ HB p2;replace p3 := hbc_ HB p3;replace p4 := hbc_ HB p4;replace p5 := hbc_ HB p5;replace p6 := hbc_ HB p6;replace p7 := hbc_ HB p7;replace p184 := eq_true p184;replace q184 := eq_true q184;refine start_ (n := 24) (S := fun w' => w'.cell? (pb.add ((pc).toNat * 8)) = some (.int .i64 ((rd_T26 l0 pc).f0)) ∧ w'.cell? ⟨(pb.add ((pc).toNat * 8)).block, (pb.add ((pc).toNat * 8)).off + 1, none⟩ = some (.string ((rd_T26 l0 pc).f1)) ∧ w'.cell? ⟨(pb.add ((pc).toNat * 8)).block, (pb.add ((pc).toNat * 8)).off + 2, none⟩ = some (.string ((rd_T26 l0 pc).f2)) ∧ w'.cell? ⟨(pb.add ((pc).toNat * 8)).block, (pb.add ((pc).toNat * 8)).off + 3, none⟩ = some (.string ((rd_T26 l0 pc).f3)) ∧ w'.cell? ⟨(pb.add ((pc).toNat * 8)).block, (pb.add ((pc).toNat * 8)).off + 4, none⟩ = some (.int .i64 ((rd_T26 l0 pc).f4)) ∧ w'.cell? ⟨(pb.add ((pc).toNat * 8)).block, (pb.add ((pc).toNat * 8)).off + 5, none⟩ = some (.string ((rd_T26 l0 pc).f5)) ∧ w'.cell? ⟨(pb.add ((pc).toNat * 8)).block, (pb.add ((pc).toNat * 8)).off + 6, none⟩ = some (.bool ((rd_T26 l0 pc).f6)) ∧ w'.cell? ⟨(pb.add ((pc).toNat * 8)).block, (pb.add ((pc).toNat * 8)).off + 7, none⟩ = some (.int .i64 ((rd_T26 l0 pc).f7)) ∧ w'.cell? (pb.add ((pa).toNat * 8)) = some (.int .i64 ((rd_T26 l0 pa).f0)) ∧ w'.cell? ⟨(pb.add ((pa).toNat * 8)).block, (pb.add ((pa).toNat * 8)).off + 1, none⟩ = some (.string ((rd_T26 l0 pa).f1)) ∧ w'.cell? ⟨(pb.add ((pa).toNat * 8)).block, (pb.add ((pa).toNat * 8)).off + 2, none⟩ = some (.string ((rd_T26 l0 pa).f2)) ∧ w'.cell? ⟨(pb.add ((pa).toNat * 8)).block, (pb.add ((pa).toNat * 8)).off + 3, none⟩ = some (.string ((rd_T26 l0 pa).f3)) ∧ w'.cell? ⟨(pb.add ((pa).toNat * 8)).block, (pb.add ((pa).toNat * 8)).off + 4, none⟩ = some (.int .i64 ((rd_T26 l0 pa).f4)) ∧ w'.cell? ⟨(pb.add ((pa).toNat * 8)).block, (pb.add ((pa).toNat * 8)).off + 5, none⟩ = some (.string ((rd_T26 l0 pa).f5)) ∧ w'.cell? ⟨(pb.add ((pa).toNat * 8)).block, (pb.add ((pa).toNat * 8)).off + 6, none⟩ = some (.bool ((rd_T26 l0 pa).f6)) ∧ w'.cell? ⟨(pb.add ((pa).toNat * 8)).block, (pb.add ((pa).toNat * 8)).off + 7, none⟩ = some (.int .i64 ((rd_T26 l0 pa).f7)) ∧ w'.cell? (pb.add ((pc).toNat * 8)) = some (.int .i64 ((rd_T26 l0 pc).f0)) ∧ w'.cell? ⟨(pb.add ((pc).toNat * 8)).block, (pb.add ((pc).toNat * 8)).off + 1, none⟩ = some (.string ((rd_T26 l0 pc).f1)) ∧ w'.cell? ⟨(pb.add ((pc).toNat * 8)).block, (pb.add ((pc).toNat * 8)).off + 2, none⟩ = some (.string ((rd_T26 l0 pc).f2)) ∧ w'.cell? ⟨(pb.add ((pc).toNat * 8)).block, (pb.add ((pc).toNat * 8)).off + 3, none⟩ = some (.string ((rd_T26 l0 pc).f3)) ∧ w'.cell? ⟨(pb.add ((pc).toNat * 8)).block, (pb.add ((pc).toNat * 8)).off + 4, none⟩ = some (.int .i64 ((rd_T26 l0 pc).f4)) ∧ w'.cell? ⟨(pb.add ((pc).toNat * 8)).block, (pb.add ((pc).toNat * 8)).off + 5, none⟩ = some (.string ((rd_T26 l0 pc).f5)) ∧ w'.cell? ⟨(pb.add ((pc).toNat * 8)).block, (pb.add ((pc).toNat * 8)).off + 6, none⟩ = some (.bool ((rd_T26 l0 pc).f6)) ∧ w'.cell? ⟨(pb.add ((pc).toNat * 8)).block, (pb.add ((pc).toNat * 8)).off + 7, none⟩ = some (.int .i64 ((rd_T26 l0 pc).f7)) ∧ w'.cell? (pb.add ((pa).toNat * 8)) = some (.int .i64 ((rd_T26 l0 pa).f0)) ∧ w'.cell? ⟨(pb.add ((pa).toNat * 8)).block, (pb.add ((pa).toNat * 8)).off + 1, none⟩ = some (.string ((rd_T26 l0 pa).f1)) ∧ w'.cell? ⟨(pb.add ((pa).toNat * 8)).block, (pb.add ((pa).toNat * 8)).off + 2, none⟩ = some (.string ((rd_T26 l0 pa).f2)) ∧ w'.cell? ⟨(pb.add ((pa).toNat * 8)).block, (pb.add ((pa).toNat * 8)).off + 3, none⟩ = some (.string ((rd_T26 l0 pa).f3)) ∧ w'.cell? ⟨(pb.add ((pa).toNat * 8)).block, (pb.add ((pa).toNat * 8)).off + 4, none⟩ = some (.int .i64 ((rd_T26 l0 pa).f4)) ∧ w'.cell? ⟨(pb.add ((pa).toNat * 8)).block, (pb.add ((pa).toNat * 8)).off + 5, none⟩ = some (.string ((rd_T26 l0 pa).f5)) ∧ w'.cell? ⟨(pb.add ((pa).toNat * 8)).block, (pb.add ((pa).toNat * 8)).off + 6, none⟩ = some (.bool ((rd_T26 l0 pa).f6)) ∧ w'.cell? ⟨(pb.add ((pa).toNat * 8)).block, (pb.add ((pa).toNat * 8)).off + 7, none⟩ = some (.int .i64 ((rd_T26 l0 pa).f7))) (ds := []) #[false, false, false, false, false, false, false, false, false, false, false, false, false, false, false, false, false, false, false, false, false, false, false, false] kr_ rfl rfl ⟨((HB.out.cell (World.block_lt_of_cell? w _ pB)).trans pB), ((HB.out.cell (World.block_lt_of_cell? w _ pA)).trans pA), ((HB.out.cell (World.block_lt_of_cell? w _ pz)).trans pz), ((HB.out.cell (World.block_lt_of_cell? w _ px)).trans px), ((HB.out.cell (World.block_lt_of_cell? w _ pw)).trans pw), ((HB.out.cell (World.block_lt_of_cell? w _ pv)).trans pv), ((HB.out.cell (World.block_lt_of_cell? w _ pu)).trans pu), ((HB.out.cell (World.block_lt_of_cell? w _ pt)).trans pt), ((HB.out.cell (World.block_lt_of_cell? w _ pJ)).trans pJ), ((HB.out.cell (World.block_lt_of_cell? w _ pI)).trans pI), ((HB.out.cell (World.block_lt_of_cell? w _ pH)).trans pH), ((HB.out.cell (World.block_lt_of_cell? w _ pG)).trans pG), ((HB.out.cell (World.block_lt_of_cell? w _ pF)).trans pF), ((HB.out.cell (World.block_lt_of_cell? w _ pE)).trans pE), ((HB.out.cell (World.block_lt_of_cell? w _ pD)).trans pD), ((HB.out.cell (World.block_lt_of_cell? w _ pC)).trans pC), ((HB.out.cell (World.block_lt_of_cell? w _ pZ)).trans pZ), ((HB.out.cell (World.block_lt_of_cell? w _ pY)).trans pY), ((HB.out.cell (World.block_lt_of_cell? w _ pX)).trans pX), ((HB.out.cell (World.block_lt_of_cell? w _ pW)).trans pW), ((HB.out.cell (World.block_lt_of_cell? w _ pV)).trans pV), ((HB.out.cell (World.block_lt_of_cell? w _ pU)).trans pU), ((HB.out.cell (World.block_lt_of_cell? w _ pT)).trans pT), ((HB.out.cell (World.block_lt_of_cell? w _ pS)).trans pS), ((HB.out.cell (World.block_lt_of_cell? w _ qf)).trans qf), ((HB.out.cell (World.block_lt_of_cell? w _ qe)).trans qe), ((HB.out.cell (World.block_lt_of_cell? w _ qd)).trans qd), ((HB.out.cell (World.block_lt_of_cell? w _ qc)).trans qc), ((HB.out.cell (World.block_lt_of_cell? w _ qb)).trans qb), ((HB.out.cell (World.block_lt_of_cell? w _ qa)).trans qa), ((HB.out.cell (World.block_lt_of_cell? w _ p9)).trans p9), ((HB.out.cell (World.block_lt_of_cell? w _ p8)).trans p8)⟩ (fun hHeld => ?_); refine with_tabW tollref07_All.tab12 tollref07_All.bits12 (fun HT_ HW_ => ?_);generalize wr.drew = w19 at HB pd pe pf pg ph pi pj pk pl pm pn po pp pq pr ps pK pL pM pN pO pP pQ pR p0 p1 p2 p3 p4 p5 p6 p7 hHeld ⊢;refine pur_ (i := 0) (N := some 31) (v := ?_) (a' := ?_) rfl rfl HT_ (fun _ _ _ h => h) (Or.inl ⟨by rfl, ?_⟩) ?_ ?_;rotate_left
                 ·intro w'
                  go_simp;(with_reducible rfl)
                 rotate_left
                 ·simp only [Act.put, sx_, s0_, s1_, i64_w, i32_w]
                  rfl
                 refine pur_ (i := 1) (N := some 32) (v := ?_) (a' := ?_) rfl rfl HT_ (fun _ _ _ h => h) (Or.inl ⟨by rfl, ?_⟩) ?_ ?_;rotate_left
                 ·intro w'
                  go_simp;(with_reducible rfl)
                 rotate_left
                 ·simp only [Act.put, sx_, s0_, s1_, i64_w, i32_w]
                  rfl
                 refine pur_ (i := 2) (N := some 33) (v := ?_) (a' := ?_) rfl rfl HT_ (fun _ _ _ h => h) (Or.inl ⟨by rfl, ?_⟩) ?_ ?_;rotate_left
                 ·intro w'
                  go_simp;(with_reducible rfl)
                 rotate_left
                 ·simp only [Act.put, sx_, s0_, s1_, i64_w, i32_w]
                  rfl
                 refine pur_ (i := 3) (N := some 34) (v := ?_) (a' := ?_) rfl rfl HT_ (fun _ _ _ h => h) (Or.inl ⟨by rfl, ?_⟩) ?_ ?_;rotate_left
                 ·intro w'
                  go_simp;(with_reducible rfl)
                 rotate_left
                 ·simp only [Act.put, sx_, s0_, s1_, i64_w, i32_w]
                  rfl
                 refine pur_ (i := 5) (N := some 36) (v := ?_) (a' := ?_) rfl rfl HT_ (fun _ _ _ h => h) (Or.inl ⟨by rfl, ?_⟩) ?_ ?_;rotate_left
                 ·intro w'
                  go_simp;(with_reducible rfl)
                 rotate_left
                 ·simp only [Act.put, sx_, s0_, s1_, i64_w, i32_w]
                  rfl
                 refine pur_ (i := 6) (N := some 37) (v := ?_) (a' := ?_) rfl rfl HT_ (fun _ _ _ h => h) (Or.inl ⟨by rfl, ?_⟩) ?_ ?_;rotate_left
                 ·intro w'
                  go_simp;(with_reducible rfl)
                 rotate_left
                 ·simp only [Act.put, sx_, s0_, s1_, i64_w, i32_w]
                  rfl
                 refine pur_ (i := 7) (N := some 38) (v := ?_) (a' := ?_) rfl rfl HT_ (fun _ _ _ h => h) (Or.inl ⟨by rfl, ?_⟩) ?_ ?_;rotate_left
                 ·intro w'
                  go_simp;(with_reducible rfl)
                 rotate_left
                 ·simp only [Act.put, sx_, s0_, s1_, i64_w, i32_w]
                  rfl
                 refine pur_ (i := 8) (N := some 39) (v := ?_) (a' := ?_) rfl rfl HT_ (fun _ _ _ h => h) (Or.inl ⟨by rfl, ?_⟩) ?_ ?_;rotate_left
                 ·intro w'
                  go_simp;(with_reducible rfl)
                 rotate_left
                 ·simp only [Act.put, sx_, s0_, s1_, i64_w, i32_w]
                  rfl
                 refine tak_ (i := 4) (N := some 35) (v := ?_) (a' := ?_) rfl rfl HT_ HW_ (fun _ _ _ h => h) (Or.inl ⟨by rfl, ?_⟩) hHeld ?_ ?_;rotate_left
                 ·rintro w' ⟨s0, s1, s2, s3, s4, s5, s6, s7, s8, s9, s10, s11, s12, s13, s14, s15, s16, s17, s18, s19, s20, s21, s22, s23, s24, s25, s26, s27, s28, s29, s30, s31⟩
                  go_simp;(with_reducible rfl)
                 rotate_left
                 ·simp only [Act.put, sx_, s0_, s1_, i64_w, i32_w]
                  rfl
                 refine tak_ (i := 9) (N := some 40) (v := ?_) (a' := ?_) rfl rfl HT_ HW_ (fun _ _ _ h => h) (Or.inl ⟨by rfl, ?_⟩) hHeld ?_ ?_;rotate_left
                 ·rintro w' ⟨s0, s1, s2, s3, s4, s5, s6, s7, s8, s9, s10, s11, s12, s13, s14, s15, s16, s17, s18, s19, s20, s21, s22, s23, s24, s25, s26, s27, s28, s29, s30, s31⟩
                  go_simp;(with_reducible rfl)
                 rotate_left
                 ·simp only [Act.put, sx_, s0_, s1_, i64_w, i32_w]
                  rfl
                 refine pur_ (i := 10) (N := some 41) (v := ?_) (a' := ?_) rfl rfl HT_ (fun _ _ _ h => h) (Or.inl ⟨by rfl, ?_⟩) ?_ ?_;rotate_left
                 ·intro w'
                  go_simp;(with_reducible rfl)
                 rotate_left
                 ·simp only [Act.put, sx_, s0_, s1_, i64_w, i32_w]
                  rfl
                 refine pur_ (i := 11) (N := some 42) (v := ?_) (a' := ?_) rfl rfl HT_ (fun _ _ _ h => h) (Or.inl ⟨by rfl, ?_⟩) ?_ ?_;rotate_left
                 ·intro w'
                  go_simp;(with_reducible rfl)
                 rotate_left
                 ·simp only [Act.put, sx_, s0_, s1_, i64_w, i32_w]
                  rfl
                 refine pur_ (i := 12) (N := some 43) (v := ?_) (a' := ?_) rfl rfl HT_ (fun _ _ _ h => h) (Or.inl ⟨by rfl, ?_⟩) ?_ ?_;rotate_left
                 ·intro w'
                  go_simp;(with_reducible rfl)
                 rotate_left
                 ·simp only [Act.put, sx_, s0_, s1_, i64_w, i32_w]
                  rfl
                 refine pur_ (i := 13) (N := some 44) (v := ?_) (a' := ?_) rfl rfl HT_ (fun _ _ _ h => h) (Or.inl ⟨by rfl, ?_⟩) ?_ ?_;rotate_left
                 ·intro w'
                  go_simp;(with_reducible rfl)
                 rotate_left
                 ·simp only [Act.put, sx_, s0_, s1_, i64_w, i32_w]
                  rfl
                 refine pur_ (i := 14) (N := some 45) (v := ?_) (a' := ?_) rfl rfl HT_ (fun _ _ _ h => h) (Or.inl ⟨by rfl, ?_⟩) ?_ ?_;rotate_left
                 ·intro w'
                  go_simp;(with_reducible rfl)
                 rotate_left
                 ·simp only [Act.put, sx_, s0_, s1_, i64_w, i32_w]
                  rfl
                 refine pur_ (i := 15) (N := some 46) (v := ?_) (a' := ?_) rfl rfl HT_ (fun _ _ _ h => h) (Or.inl ⟨by rfl, ?_⟩) ?_ ?_;rotate_left
                 ·intro w'
                  go_simp;(with_reducible rfl)
                 rotate_left
                 ·simp only [Act.put, sx_, s0_, s1_, i64_w, i32_w]
                  rfl
                 refine pur_ (i := 17) (N := some 48) (v := ?_) (a' := ?_) rfl rfl HT_ (fun _ _ _ h => h) (Or.inl ⟨by rfl, ?_⟩) ?_ ?_;rotate_left
                 ·intro w'
                  go_simp;(with_reducible rfl)
                 rotate_left
                 ·simp only [Act.put, sx_, s0_, s1_, i64_w, i32_w]
                  rfl
                 refine pur_ (i := 18) (N := some 49) (v := ?_) (a' := ?_) rfl rfl HT_ (fun _ _ _ h => h) (Or.inl ⟨by rfl, ?_⟩) ?_ ?_;rotate_left
                 ·intro w'
                  go_simp;(with_reducible rfl)
                 rotate_left
                 ·simp only [Act.put, sx_, s0_, s1_, i64_w, i32_w]
                  rfl
                 refine pur_ (i := 19) (N := some 50) (v := ?_) (a' := ?_) rfl rfl HT_ (fun _ _ _ h => h) (Or.inl ⟨by rfl, ?_⟩) ?_ ?_;rotate_left
                 ·intro w'
                  go_simp;(with_reducible rfl)
                 rotate_left
                 ·simp only [Act.put, sx_, s0_, s1_, i64_w, i32_w]
                  rfl
                 refine pur_ (i := 20) (N := some 51) (v := ?_) (a' := ?_) rfl rfl HT_ (fun _ _ _ h => h) (Or.inl ⟨by rfl, ?_⟩) ?_ ?_;rotate_left
                 ·intro w'
                  go_simp;(with_reducible rfl)
                 rotate_left
                 ·simp only [Act.put, sx_, s0_, s1_, i64_w, i32_w]
                  rfl
                 refine tak_ (i := 16) (N := some 47) (v := ?_) (a' := ?_) rfl rfl HT_ HW_ (fun _ _ _ h => h) (Or.inl ⟨by rfl, ?_⟩) hHeld ?_ ?_;rotate_left
                 ·rintro w' ⟨s0, s1, s2, s3, s4, s5, s6, s7, s8, s9, s10, s11, s12, s13, s14, s15, s16, s17, s18, s19, s20, s21, s22, s23, s24, s25, s26, s27, s28, s29, s30, s31⟩
                  go_simp;(with_reducible rfl)
                 rotate_left
                 ·simp only [Act.put, sx_, s0_, s1_, i64_w, i32_w]
                  rfl
                 refine tak_ (i := 21) (N := some 52) (v := ?_) (a' := ?_) rfl rfl HT_ HW_ (fun _ _ _ h => h) (Or.inl ⟨by rfl, ?_⟩) hHeld ?_ ?_;rotate_left
                 ·rintro w' ⟨s0, s1, s2, s3, s4, s5, s6, s7, s8, s9, s10, s11, s12, s13, s14, s15, s16, s17, s18, s19, s20, s21, s22, s23, s24, s25, s26, s27, s28, s29, s30, s31⟩
                  go_simp;(with_reducible rfl)
                 rotate_left
                 ·simp only [Act.put, sx_, s0_, s1_, i64_w, i32_w]
                  rfl
                 refine ono_ (i := 22) (N := some 53) rfl rfl HT_ (by decide) (fun K hK => ?_);refine goes_ Tryz.func23 kr_ rfl #[.string ((rd_T26 l0 pc).f1), .string ((rd_T26 l0 pa).f1)] (by rfl) rfl rfl rl_ ?_;(with_reducible refine (tollref05_Same.calls k3 ((rd_T26 l0 pc).f1) ((rd_T26 l0 pa).f1) false _ A15.out).mono ?_);rintro e w20 ⟨rfl, hb⟩;refine ⟨_, rfl, ?_⟩;replace HB := bs_ HB hb;(try clear hb);(try clear hb2);(try clear hk);(try clear hi);refine hK.out _ _ ⟨((HB.out.cell (World.block_lt_of_cell? w _ pB)).trans pB), ((HB.out.cell (World.block_lt_of_cell? w _ pA)).trans pA), ((HB.out.cell (World.block_lt_of_cell? w _ pz)).trans pz), ((HB.out.cell (World.block_lt_of_cell? w _ px)).trans px), ((HB.out.cell (World.block_lt_of_cell? w _ pw)).trans pw), ((HB.out.cell (World.block_lt_of_cell? w _ pv)).trans pv), ((HB.out.cell (World.block_lt_of_cell? w _ pu)).trans pu), ((HB.out.cell (World.block_lt_of_cell? w _ pt)).trans pt), ((HB.out.cell (World.block_lt_of_cell? w _ pJ)).trans pJ), ((HB.out.cell (World.block_lt_of_cell? w _ pI)).trans pI), ((HB.out.cell (World.block_lt_of_cell? w _ pH)).trans pH), ((HB.out.cell (World.block_lt_of_cell? w _ pG)).trans pG), ((HB.out.cell (World.block_lt_of_cell? w _ pF)).trans pF), ((HB.out.cell (World.block_lt_of_cell? w _ pE)).trans pE), ((HB.out.cell (World.block_lt_of_cell? w _ pD)).trans pD), ((HB.out.cell (World.block_lt_of_cell? w _ pC)).trans pC), ((HB.out.cell (World.block_lt_of_cell? w _ pZ)).trans pZ), ((HB.out.cell (World.block_lt_of_cell? w _ pY)).trans pY), ((HB.out.cell (World.block_lt_of_cell? w _ pX)).trans pX), ((HB.out.cell (World.block_lt_of_cell? w _ pW)).trans pW), ((HB.out.cell (World.block_lt_of_cell? w _ pV)).trans pV), ((HB.out.cell (World.block_lt_of_cell? w _ pU)).trans pU), ((HB.out.cell (World.block_lt_of_cell? w _ pT)).trans pT), ((HB.out.cell (World.block_lt_of_cell? w _ pS)).trans pS), ((HB.out.cell (World.block_lt_of_cell? w _ qf)).trans qf), ((HB.out.cell (World.block_lt_of_cell? w _ qe)).trans qe), ((HB.out.cell (World.block_lt_of_cell? w _ qd)).trans qd), ((HB.out.cell (World.block_lt_of_cell? w _ qc)).trans qc), ((HB.out.cell (World.block_lt_of_cell? w _ qb)).trans qb), ((HB.out.cell (World.block_lt_of_cell? w _ qa)).trans qa), ((HB.out.cell (World.block_lt_of_cell? w _ p9)).trans p9), ((HB.out.cell (World.block_lt_of_cell? w _ p8)).trans p8)⟩ (fun hHeld => ?_);clear hK K;refine norm_ (a' := ?_) ?_ ?_;rotate_left
                 ·show Act.put _ (some 53) _ = _
                  simp only [Act.put, sx_, s0_, s1_, i64_w, i32_w];rfl
                 refine pur_ (i := 23) (N := some 54) (v := ?_) (a' := ?_) rfl rfl HT_ (fun _ _ _ h => h) (Or.inl ⟨by rfl, ?_⟩) ?_ ?_;rotate_left
                 ·intro w'
                  go_simp;(with_reducible rfl)
                 rotate_left
                 ·simp only [Act.put, sx_, s0_, s1_, i64_w, i32_w]
                  rfl
                 refine done_ (done_of HT_.out kr_) ?_;try go_wp2
                 go_roundg k3
                 case measure => have := HK1.out; have := HJ5.out; have := HK3.out; omega
                 case rel => exact ⟨(wrap64 (pc + 1)), sd_, H', ⟨by have := HK1.out; have := HJ5.out; have := HK3.out; omega⟩, ⟨bel_ HB.out⟩⟩
               ·rw [if_neg c14] at H
                have qK := eqf_ c14;have qL := nef_ c14;have H' := Aside0.mk H;clear H;try go_wp2
                replace HB := am_ (below_drew1 HB.out);have p181 : 0 ≤ (pc : Int) := of_decide_eq_true as_;have q181 : pc < (l0.length : Int) := of_decide_eq_true as_;obtain ⟨qr, e181, pd, pe, pf, pg, ph, pi, pj, pk⟩ := at_T26 HR0.out pc p181 q181;have pt := pk;have pu := pj;have pv := pi;have pw := ph;have px := pg;have pz := pf;have pA := pe;have pB := pd;obtain rfl : pb = qr := (by injection e181);replace pd := hbc_ HB pd;replace pe := hbc_ HB pe;replace pf := hbc_ HB pf;replace pg := hbc_ HB pg;replace ph := hbc_ HB ph;replace pi := hbc_ HB pi;replace pj := hbc_ HB pj;replace pk := hbc_ HB pk;replace p181 := eq_true p181;replace q181 := eq_true q181;have p182 : 0 ≤ (pa : Int) := of_decide_eq_true as_;have q182 : pa < (l0.length : Int) := of_decide_eq_true as_;obtain ⟨qs, e182, pl, pm, pn, po, pp, pq, pr, ps⟩ := at_T26 HR0.out pa p182 q182;have pC := ps;have pD := pr;have pE := pq;have pF := pp;have pG := po;have pH := pn;have pI := pm;have pJ := pl;obtain rfl : pb = qs := (by injection e182);replace pl := hbc_ HB pl;replace pm := hbc_ HB pm;replace pn := hbc_ HB pn;replace po := hbc_ HB po;replace pp := hbc_ HB pp;replace pq := hbc_ HB pq;replace pr := hbc_ HB pr;replace ps := hbc_ HB ps;replace p182 := eq_true p182;replace q182 := eq_true q182;refine start_ (n := 24) (S := fun w' => w'.cell? (pb.add ((pc).toNat * 8)) = some (.int .i64 ((rd_T26 l0 pc).f0)) ∧ w'.cell? ⟨(pb.add ((pc).toNat * 8)).block, (pb.add ((pc).toNat * 8)).off + 1, none⟩ = some (.string ((rd_T26 l0 pc).f1)) ∧ w'.cell? ⟨(pb.add ((pc).toNat * 8)).block, (pb.add ((pc).toNat * 8)).off + 2, none⟩ = some (.string ((rd_T26 l0 pc).f2)) ∧ w'.cell? ⟨(pb.add ((pc).toNat * 8)).block, (pb.add ((pc).toNat * 8)).off + 3, none⟩ = some (.string ((rd_T26 l0 pc).f3)) ∧ w'.cell? ⟨(pb.add ((pc).toNat * 8)).block, (pb.add ((pc).toNat * 8)).off + 4, none⟩ = some (.int .i64 ((rd_T26 l0 pc).f4)) ∧ w'.cell? ⟨(pb.add ((pc).toNat * 8)).block, (pb.add ((pc).toNat * 8)).off + 5, none⟩ = some (.string ((rd_T26 l0 pc).f5)) ∧ w'.cell? ⟨(pb.add ((pc).toNat * 8)).block, (pb.add ((pc).toNat * 8)).off + 6, none⟩ = some (.bool ((rd_T26 l0 pc).f6)) ∧ w'.cell? ⟨(pb.add ((pc).toNat * 8)).block, (pb.add ((pc).toNat * 8)).off + 7, none⟩ = some (.int .i64 ((rd_T26 l0 pc).f7)) ∧ w'.cell? (pb.add ((pa).toNat * 8)) = some (.int .i64 ((rd_T26 l0 pa).f0)) ∧ w'.cell? ⟨(pb.add ((pa).toNat * 8)).block, (pb.add ((pa).toNat * 8)).off + 1, none⟩ = some (.string ((rd_T26 l0 pa).f1)) ∧ w'.cell? ⟨(pb.add ((pa).toNat * 8)).block, (pb.add ((pa).toNat * 8)).off + 2, none⟩ = some (.string ((rd_T26 l0 pa).f2)) ∧ w'.cell? ⟨(pb.add ((pa).toNat * 8)).block, (pb.add ((pa).toNat * 8)).off + 3, none⟩ = some (.string ((rd_T26 l0 pa).f3)) ∧ w'.cell? ⟨(pb.add ((pa).toNat * 8)).block, (pb.add ((pa).toNat * 8)).off + 4, none⟩ = some (.int .i64 ((rd_T26 l0 pa).f4)) ∧ w'.cell? ⟨(pb.add ((pa).toNat * 8)).block, (pb.add ((pa).toNat * 8)).off + 5, none⟩ = some (.string ((rd_T26 l0 pa).f5)) ∧ w'.cell? ⟨(pb.add ((pa).toNat * 8)).block, (pb.add ((pa).toNat * 8)).off + 6, none⟩ = some (.bool ((rd_T26 l0 pa).f6)) ∧ w'.cell? ⟨(pb.add ((pa).toNat * 8)).block, (pb.add ((pa).toNat * 8)).off + 7, none⟩ = some (.int .i64 ((rd_T26 l0 pa).f7))) (ds := []) #[false, false, false, false, false, false, false, false, false, false, false, false, false, false, false, false, false, false, false, false, false, false, false, false] kr_ rfl rfl ⟨((HB.out.cell (World.block_lt_of_cell? w _ pB)).trans pB), ((HB.out.cell (World.block_lt_of_cell? w _ pA)).trans pA), ((HB.out.cell (World.block_lt_of_cell? w _ pz)).trans pz), ((HB.out.cell (World.block_lt_of_cell? w _ px)).trans px), ((HB.out.cell (World.block_lt_of_cell? w _ pw)).trans pw), ((HB.out.cell (World.block_lt_of_cell? w _ pv)).trans pv), ((HB.out.cell (World.block_lt_of_cell? w _ pu)).trans pu), ((HB.out.cell (World.block_lt_of_cell? w _ pt)).trans pt), ((HB.out.cell (World.block_lt_of_cell? w _ pJ)).trans pJ), ((HB.out.cell (World.block_lt_of_cell? w _ pI)).trans pI), ((HB.out.cell (World.block_lt_of_cell? w _ pH)).trans pH), ((HB.out.cell (World.block_lt_of_cell? w _ pG)).trans pG), ((HB.out.cell (World.block_lt_of_cell? w _ pF)).trans pF), ((HB.out.cell (World.block_lt_of_cell? w _ pE)).trans pE), ((HB.out.cell (World.block_lt_of_cell? w _ pD)).trans pD), ((HB.out.cell (World.block_lt_of_cell? w _ pC)).trans pC)⟩ (fun hHeld => ?_); refine with_tabW tollref07_All.tab12 tollref07_All.bits12 (fun HT_ HW_ => ?_);generalize wr.drew = w21 at HB pd pe pf pg ph pi pj pk pl pm pn po pp pq pr ps hHeld ⊢;refine pur_ (i := 0) (N := some 31) (v := ?_) (a' := ?_) rfl rfl HT_ (fun _ _ _ h => h) (Or.inl ⟨by rfl, ?_⟩) ?_ ?_;rotate_left
                ·intro w'
                 go_simp;(with_reducible rfl)
                rotate_left
                ·simp only [Act.put, sx_, s0_, s1_, i64_w, i32_w]
                 rfl
                refine pur_ (i := 1) (N := some 32) (v := ?_) (a' := ?_) rfl rfl HT_ (fun _ _ _ h => h) (Or.inl ⟨by rfl, ?_⟩) ?_ ?_;rotate_left
                ·intro w'
                 go_simp;(with_reducible rfl)
                rotate_left
                ·simp only [Act.put, sx_, s0_, s1_, i64_w, i32_w]
                 rfl
                refine pur_ (i := 2) (N := some 33) (v := ?_) (a' := ?_) rfl rfl HT_ (fun _ _ _ h => h) (Or.inl ⟨by rfl, ?_⟩) ?_ ?_;rotate_left
                ·intro w'
                 go_simp;(with_reducible rfl)
                rotate_left
                ·simp only [Act.put, sx_, s0_, s1_, i64_w, i32_w]
                 rfl
                refine pur_ (i := 3) (N := some 34) (v := ?_) (a' := ?_) rfl rfl HT_ (fun _ _ _ h => h) (Or.inl ⟨by rfl, ?_⟩) ?_ ?_;rotate_left
                ·intro w'
                 go_simp;(with_reducible rfl)
                rotate_left
                ·simp only [Act.put, sx_, s0_, s1_, i64_w, i32_w]
                 rfl
                refine pur_ (i := 5) (N := some 36) (v := ?_) (a' := ?_) rfl rfl HT_ (fun _ _ _ h => h) (Or.inl ⟨by rfl, ?_⟩) ?_ ?_;rotate_left
                ·intro w'
                 go_simp;(with_reducible rfl)
                rotate_left
                ·simp only [Act.put, sx_, s0_, s1_, i64_w, i32_w]
                 rfl
                refine pur_ (i := 6) (N := some 37) (v := ?_) (a' := ?_) rfl rfl HT_ (fun _ _ _ h => h) (Or.inl ⟨by rfl, ?_⟩) ?_ ?_;rotate_left
                ·intro w'
                 go_simp;(with_reducible rfl)
                rotate_left
                ·simp only [Act.put, sx_, s0_, s1_, i64_w, i32_w]
                 rfl
                refine pur_ (i := 7) (N := some 38) (v := ?_) (a' := ?_) rfl rfl HT_ (fun _ _ _ h => h) (Or.inl ⟨by rfl, ?_⟩) ?_ ?_;rotate_left
                ·intro w'
                 go_simp;(with_reducible rfl)
                rotate_left
                ·simp only [Act.put, sx_, s0_, s1_, i64_w, i32_w]
                 rfl
                refine pur_ (i := 8) (N := some 39) (v := ?_) (a' := ?_) rfl rfl HT_ (fun _ _ _ h => h) (Or.inl ⟨by rfl, ?_⟩) ?_ ?_;rotate_left
                ·intro w'
                 go_simp;(with_reducible rfl)
                rotate_left
                ·simp only [Act.put, sx_, s0_, s1_, i64_w, i32_w]
                 rfl
                refine tak_ (i := 4) (N := some 35) (v := ?_) (a' := ?_) rfl rfl HT_ HW_ (fun _ _ _ h => h) (Or.inl ⟨by rfl, ?_⟩) hHeld ?_ ?_;rotate_left
                ·rintro w' ⟨s0, s1, s2, s3, s4, s5, s6, s7, s8, s9, s10, s11, s12, s13, s14, s15⟩
                 go_simp;(with_reducible rfl)
                rotate_left
                ·simp only [Act.put, sx_, s0_, s1_, i64_w, i32_w]
                 rfl
                refine tak_ (i := 9) (N := some 40) (v := ?_) (a' := ?_) rfl rfl HT_ HW_ (fun _ _ _ h => h) (Or.inl ⟨by rfl, ?_⟩) hHeld ?_ ?_;rotate_left
                ·rintro w' ⟨s0, s1, s2, s3, s4, s5, s6, s7, s8, s9, s10, s11, s12, s13, s14, s15⟩
                 go_simp;(with_reducible rfl)
                rotate_left
                ·simp only [Act.put, sx_, s0_, s1_, i64_w, i32_w]
                 rfl
                refine pur_ (i := 10) (N := some 41) (v := ?_) (a' := ?_) rfl rfl HT_ (fun _ _ _ h => h) (Or.inl ⟨by rfl, ?_⟩) ?_ ?_;rotate_left
                ·intro w'
                 go_simp;(with_reducible rfl)
                rotate_left
                ·simp only [Act.put, sx_, s0_, s1_, i64_w, i32_w]
                 rfl
                refine pur_ (i := 11) (N := some 42) (v := ?_) (a' := ?_) rfl rfl HT_ (fun _ _ _ h => h) (Or.inl ⟨by rfl, ?_⟩) ?_ ?_;rotate_left
                ·intro w'
                 go_simp;(with_reducible rfl)
                rotate_left
                ·simp only [Act.put, sx_, s0_, s1_, i64_w, i32_w]
                 rfl
                refine pur_ (i := 12) (N := some 43) (v := undef) (a' := ?_) rfl rfl HT_ (fun _ _ _ h => h) (Or.inr ⟨by rfl, rfl⟩) ?_ ?_;rotate_left
                ·simp only [Act.put, sx_, s0_, s1_, i64_w, i32_w]
                 rfl
                refine pur_ (i := 13) (N := some 44) (v := undef) (a' := ?_) rfl rfl HT_ (fun _ _ _ h => h) (Or.inr ⟨by rfl, rfl⟩) ?_ ?_;rotate_left
                ·simp only [Act.put, sx_, s0_, s1_, i64_w, i32_w]
                 rfl
                refine pur_ (i := 14) (N := some 45) (v := undef) (a' := ?_) rfl rfl HT_ (fun _ _ _ h => h) (Or.inr ⟨by rfl, rfl⟩) ?_ ?_;rotate_left
                ·simp only [Act.put, sx_, s0_, s1_, i64_w, i32_w]
                 rfl
                refine pur_ (i := 15) (N := some 46) (v := undef) (a' := ?_) rfl rfl HT_ (fun _ _ _ h => h) (Or.inr ⟨by rfl, rfl⟩) ?_ ?_;rotate_left
                ·simp only [Act.put, sx_, s0_, s1_, i64_w, i32_w]
                 rfl
                refine pur_ (i := 16) (N := some 47) (v := undef) (a' := ?_) rfl rfl HT_ (fun _ _ _ h => h) (Or.inr ⟨by rfl, rfl⟩) ?_ ?_;rotate_left
                ·simp only [Act.put, sx_, s0_, s1_, i64_w, i32_w]
                 rfl
                refine pur_ (i := 17) (N := some 48) (v := undef) (a' := ?_) rfl rfl HT_ (fun _ _ _ h => h) (Or.inr ⟨by rfl, rfl⟩) ?_ ?_;rotate_left
                ·simp only [Act.put, sx_, s0_, s1_, i64_w, i32_w]
                 rfl
                refine pur_ (i := 18) (N := some 49) (v := undef) (a' := ?_) rfl rfl HT_ (fun _ _ _ h => h) (Or.inr ⟨by rfl, rfl⟩) ?_ ?_;rotate_left
                ·simp only [Act.put, sx_, s0_, s1_, i64_w, i32_w]
                 rfl
                refine pur_ (i := 19) (N := some 50) (v := undef) (a' := ?_) rfl rfl HT_ (fun _ _ _ h => h) (Or.inr ⟨by rfl, rfl⟩) ?_ ?_;rotate_left
                ·simp only [Act.put, sx_, s0_, s1_, i64_w, i32_w]
                 rfl
                refine pur_ (i := 20) (N := some 51) (v := undef) (a' := ?_) rfl rfl HT_ (fun _ _ _ h => h) (Or.inr ⟨by rfl, rfl⟩) ?_ ?_;rotate_left
                ·simp only [Act.put, sx_, s0_, s1_, i64_w, i32_w]
                 rfl
                refine pur_ (i := 21) (N := some 52) (v := undef) (a' := ?_) rfl rfl HT_ (fun _ _ _ h => h) (Or.inr ⟨by rfl, rfl⟩) ?_ ?_;rotate_left
                ·simp only [Act.put, sx_, s0_, s1_, i64_w, i32_w]
                 rfl
                refine pur_ (i := 22) (N := some 53) (v := undef) (a' := ?_) rfl rfl HT_ (fun _ _ _ h => h) (Or.inr ⟨by rfl, rfl⟩) ?_ ?_;rotate_left
                ·simp only [Act.put, sx_, s0_, s1_, i64_w, i32_w]
                 rfl
                refine pur_ (i := 23) (N := some 54) (v := ?_) (a' := ?_) rfl rfl HT_ (fun _ _ _ h => h) (Or.inl ⟨by rfl, ?_⟩) ?_ ?_;rotate_left
                ·intro w'
                 go_simp;(with_reducible rfl)
                rotate_left
                ·simp only [Act.put, sx_, s0_, s1_, i64_w, i32_w]
                 rfl
                refine done_ (done_of HT_.out kr_) ?_;try go_wp2
                go_roundg k3
                case measure => have := HK1.out; have := HJ5.out; have := HK3.out; omega
                case rel => exact ⟨(wrap64 (pc + 1)), sd_, H', ⟨by have := HK1.out; have := HJ5.out; have := HK3.out; omega⟩, ⟨bel_ HB.out⟩⟩
              ·rw [if_neg c13] at H
               cases H
             ·rw [if_neg c12] at H
              cases H
            ·rw [if_neg c11] at H
             cases H
           ·rw [if_neg c10] at H
            cases H
          ·rw [if_neg c9] at H
           have qJ := decide_eq_false c9;clear c9;have H' := Aside0.mk H;clear H;go_wp2;go_roundg k3
           case measure => have := HK1.out; have := HJ5.out; have := HK3.out; omega
           case rel => exact ⟨(qp), (wrap64 (pa + 1)), sd_, sd_, H', ⟨by have := HK1.out; have := HJ5.out; have := HK3.out; omega⟩, ⟨bel_ HB.out⟩⟩
     ·replace c5 := Bool.eq_false_iff.mpr c5
      subst c5;replace H := iff_ H;obtain rfl := Option.some.inj H;have p178 : 0 ≤ (pa : Int) := of_decide_eq_true as_;have q178 : pa < (l0.length : Int) := of_decide_eq_true as_;obtain ⟨pb, e178, qg, qh, qi, qj, qk, ql, qm, qn⟩ := at_T26 HR0.out pa p178 q178;cases e178
      replace qg := hbc_ HB qg;replace qh := hbc_ HB qh;replace qi := hbc_ HB qi;replace qj := hbc_ HB qj;replace qk := hbc_ HB qk;replace ql := hbc_ HB ql;replace qm := hbc_ HB qm;replace qn := hbc_ HB qn;replace p178 := eq_true p178;replace q178 := eq_true q178;go_wp2_with (first | ((with_reducible refine gate_callee (f := 11) rfl ?_); refine goesL_ (some 16) rfl rfl Tryz.func11 kr_ rfl #[.agg #[.int .i64 ((rd_T26 l0 pa).f0), .string ((rd_T26 l0 pa).f1), .string ((rd_T26 l0 pa).f2), .string ((rd_T26 l0 pa).f3), .int .i64 ((rd_T26 l0 pa).f4), .string ((rd_T26 l0 pa).f5), .bool ((rd_T26 l0 pa).f6), .int .i64 ((rd_T26 l0 pa).f7)]] rfl rl_ ?_; (with_reducible refine (tollref07_May.calls k1 ((rd_T26 l0 pa).f0) ((rd_T26 l0 pa).f1) ((rd_T26 l0 pa).f2) ((rd_T26 l0 pa).f3) ((rd_T26 l0 pa).f4) ((rd_T26 l0 pa).f5) ((rd_T26 l0 pa).f6) ((rd_T26 l0 pa).f7) false _ A4.out).mono ?_); rintro e w22 ⟨rfl, hb⟩; refine ⟨_, rfl, ?_⟩; replace HB := bs_ HB hb; (try clear hb)));go_ret;exact ⟨fi_, bel_ HB.out⟩
    ·rw [if_neg c3] at H
     cases H
   ·rw [if_neg c2] at H
    have qB := decide_eq_false c2;clear c2;by_cases c23 : qo ≤ 1
    ·rw [if_pos c23] at H
     have qN := decide_eq_true c23;clear c23;obtain rfl := Option.some.inj H;go_wp2;go_ret;exact ⟨fi_, bel_ HB.out⟩
    ·rw [if_neg c23] at H
     have qN := decide_eq_false c23;clear c23;obtain rfl := Option.some.inj H;go_wp2;go_ret;exact ⟨fi_, bel_ HB.out⟩

end Go.Proofs.YtfdopmjgiakcdaaGreatDoor.P
