-- written by wip/tool/hprint.py of this repo: the kit's print, with contracts by hand joined; Lean checks it.
import Derived.Test.YtfdopmjgiakcdaaGreatDoorPx0
import Derived.Test.YtfdopmjgiakcdaaGreatDoorPx11
import Derived.Test.YtfdopmjgiakcdaaGreatDoorPx15
namespace Go.Proofs.YtfdopmjgiakcdaaGreatDoor.P
open Go.RowKit Go.Proofs.YtfdopmjgiakcdaaGreatDoorW.PrintWords Go.Proofs.YtfdopmjgiakcdaaGreatDoorW.PrintLast Go.Proofs.YtfdopmjgiakcdaaGreatDoorW.PrintMore
attribute [local go_sem] max2_int min2_int max_two min_two max_three min_three max_four min_four   -- for this text's walks alone
set_option linter.unusedVariables false
set_option linter.unusedSimpArgs false

/-! ### tollref03_May: function 66 -/
def tollref03_May.f (k : Nat) (a0_0 : Int) (a0_1 : ByteArray) : Option (Bool) := if a0_0 = 1 then ((tollref03_Is.f k a0_1).bind fun t308 => (some t308)) else (if a0_0 = 2 then ((tollref03_Above.f k a0_1).bind fun t309 => (some t309)) else (some false))
theorem tollref03_May.mono : ∀ a0 a1 k, LeO (tollref03_May.f k a0 a1) (tollref03_May.f (k + 1) a0 a1) := by
 intro a0 a1 k
 unfold tollref03_May.f
 repeat' with_reducible first | apply tollref03_Above.mono | apply tollref03_Is.mono | apply LeO.refl | apply LeO.none | apply LeO.ite | refine LeO.bind ?_ fun _ => ?_
set_option maxHeartbeats 8000000 in
set_option maxRecDepth 100000 in
theorem tollref03_May.calls (k : Nat) (pb : Int) (pa : ByteArray) (r : Bool) (w : World) (h : tollref03_May.f k pb pa = some r) :
  Calls Tryz.prog 66 #[.agg #[.int .i64 pb, .string pa]] w fun e w' => e = .returned (.bool r) ∧ Below w.heap.size w w' := by
 have hu30 := Tryz.underlying30;have HB := am_ (Below.refl w.heap.size w);have H : (if pb = 1 then ((tollref03_Is.f k pa).bind fun pd => (some pd)) else (if pb = 2 then ((tollref03_Above.f k pa).bind fun pe => (some pe)) else (some false))) = some r := h;clear h;by_cases c2 : pb = 1
 ·rw [if_pos c2] at H
  have pi := eqb_ c2;have pj := neb_ c2;clear c2;obtain ⟨pd, A3, H⟩ := bnd_ H;obtain rfl := Option.some.inj H;go_enter Tryz.func66, Tryz.ntmps66;go_wp2_with (first | ((with_reducible refine gate_dst (N := 1) rfl ?_); refine box_event ?hg (N := 1) ?hd (cs := #[.int .i64 pb, .string pa]) (t := 30) ?hr ?_; (case hd => rfl); (case hg => rfl); (case hr => first | (go_simp; done) | (go_simp; rfl)); intro pf hg w4 hbox hb; have pc := am_ (hbox); have pg := sz_ HB hg; have ph := sz_ HB hg; replace HB := bs_ HB hb; clear hb hbox hg; obtain ⟨pm, pn, po, pp⟩ := blk2 pc.out) | ((with_reducible refine gate_callee (f := 57) rfl ?_); refine goesL_ (some 8) rfl rfl Tryz.func57 kr_ rfl #[.string pa] rfl rl_ ?_; (with_reducible refine (tollref03_Is.calls k pa pd _ A3.out).mono ?_); rintro e w' ⟨rfl, ⟨nd, rfl⟩⟩; refine ⟨_, rfl, ?_⟩));go_ret;exact ⟨fi_, bel_ HB.out⟩
 ·rw [if_neg c2] at H
  have pi := eqf_ c2;have pj := nef_ c2;by_cases c6 : pb = 2
  ·rw [if_pos c6] at H
   have pk := eqb_ c6;have pl := neb_ c6;clear c6;obtain ⟨pe, A7, H⟩ := bnd_ H;obtain rfl := Option.some.inj H;go_enter Tryz.func66, Tryz.ntmps66;go_wp2_with (first | ((with_reducible refine gate_dst (N := 1) rfl ?_); refine box_event ?hg (N := 1) ?hd (cs := #[.int .i64 pb, .string pa]) (t := 30) ?hr ?_; (case hd => rfl); (case hg => rfl); (case hr => first | (go_simp; done) | (go_simp; rfl)); intro pf hg w8 hbox hb; have pc := am_ (hbox); have pg := sz_ HB hg; have ph := sz_ HB hg; replace HB := bs_ HB hb; clear hb hbox hg; obtain ⟨pq, pr, ps, pt⟩ := blk2 pc.out) | (go_at_call 58; (with_reducible refine (tollref03_Above.calls k pa pe _ A7.out).mono ?_); rintro e w' ⟨rfl, ⟨nd, rfl⟩⟩));go_ret;exact ⟨fi_, bel_ HB.out⟩
  ·rw [if_neg c6] at H
   have pk := eqf_ c6;have pl := nef_ c6;obtain rfl := Option.some.inj H;go_enter Tryz.func66, Tryz.ntmps66;go_wp2_with (first | ((with_reducible refine gate_dst (N := 1) rfl ?_); refine box_event ?hg (N := 1) ?hd (cs := #[.int .i64 pb, .string pa]) (t := 30) ?hr ?_; (case hd => rfl); (case hg => rfl); (case hr => first | (go_simp; done) | (go_simp; rfl)); intro pf hg w10 hbox hb; have pc := am_ (hbox); have pg := sz_ HB hg; have ph := sz_ HB hg; replace HB := bs_ HB hb; clear hb hbox hg; obtain ⟨pu, pv, pw, px⟩ := blk2 pc.out));go_ret;exact ⟨fi_, bel_ HB.out⟩

/-! ### tollref03_Holds: function 41 -/
def tollref03_Holds.j0 : Nat → ByteArray → Bool → Int → ByteArray → Option (Bool)
 | 0, _, _, _, _ => none
 | k + 1, x1, x13, x311000, x311001 => if x13 = true then (some false) else (if x311000 = 1 then (some (x311001.toList == x1.toList)) else (if x311001.toList = x1.toList then (some (x311001.toList == x1.toList)) else (if (x311001.size : Int) = 1 then (some true) else (if (x1.size : Int) > (x311001.size : Int) then (if 0 ≤ (x311001.size : Int) then (if (x311001.size : Int) ≤ (x1.size : Int) then (if (x1.extract 0 x311001.size).toList = x311001.toList then (if (x311001.size : Int) < (x1.size : Int) then (some ((bt x1 (x311001.size : Int)) == 47)) else (none)) else (some false)) else (none)) else (none)) else (some false)))))
def tollref03_Holds.f (k : Nat) (a0_0 : Int) (a0_1 : ByteArray) (a1 : ByteArray) : Option (Bool) := (tollref03_May.f k a0_0 a0_1).bind fun t311 => (if t311 = true then ((tollref03_Is.f k a1).bind fun t312 => (tollref03_Holds.j0 k a1 (!t312) a0_0 a0_1)) else (tollref03_Holds.j0 k a1 true a0_0 a0_1))
theorem tollref03_Holds.mono_l : ∀ k, (∀ y0 y1 y2 y3, LeO (tollref03_Holds.j0 k y0 y1 y2 y3) (tollref03_Holds.j0 (k + 1) y0 y1 y2 y3))
 | 0 => fun _ _ _ _ r h => by simp [tollref03_Holds.j0] at h
 | k + 1 => by
  have ih0 := tollref03_Holds.mono_l k
  ·intro y0 y1 y2 y3
   unfold tollref03_Holds.j0
   repeat' with_reducible first | apply ih0 | apply tollref03_Is.mono | apply tollref03_May.mono | apply LeO.refl | apply LeO.none | apply LeO.ite | refine LeO.bind ?_ fun _ => ?_
theorem tollref03_Holds.mono : ∀ a0 a1 a2 k, LeO (tollref03_Holds.f k a0 a1 a2) (tollref03_Holds.f (k + 1) a0 a1 a2) := by
 intro a0 a1 a2 k
 have ih0 := tollref03_Holds.mono_l k
 unfold tollref03_Holds.f
 repeat' with_reducible first | apply ih0 | apply tollref03_Is.mono | apply tollref03_May.mono | apply LeO.refl | apply LeO.none | apply LeO.ite | refine LeO.bind ?_ fun _ => ?_
set_option maxHeartbeats 8000000 in
set_option maxRecDepth 100000 in
theorem tollref03_Holds.calls (k : Nat) (pc : Int) (pa : ByteArray) (a1 : ByteArray) (r : Bool) (w : World) (h : tollref03_Holds.f k pc pa a1 = some r) :
  Calls Tryz.prog 41 #[.agg #[.int .i64 pc, .string pa], .string a1] w fun e w' => e = .returned (.bool r) ∧ Below w.heap.size w w' := by
 have hu30 := Tryz.underlying30;have HB := am_ (Below.refl w.heap.size w);have H : ((tollref03_May.f k pc pa).bind fun pf => (if pf = true then ((tollref03_Is.f k a1).bind fun pd => (tollref03_Holds.j0 k a1 (!pd) pc pa)) else (tollref03_Holds.j0 k a1 true pc pa))) = some r := h;clear h;have HC3 := Aside0.mk H;clear H;go_enter Tryz.func41, Tryz.ntmps41;go_upto_region 1 with (first | ((with_reducible refine gate_dst (N := 2) rfl ?_); (try (refine gate_guard (by rfl) ?_; dsimp only)); refine box_event ?hg (N := 2) ?hd (cs := #[.int .i64 pc, .string pa]) (t := 30) ?hr ?_; (case hd => rfl); (case hg => rfl); (case hr => first | (go_simp; done) | (go_simp; rfl)); intro pg hg w4 hbox hb; have pb := am_ (hbox); have ph := sz_ HB hg; have pi := sz_ HB hg; replace HB := bs_ HB hb; clear hb hbox hg))
 repeat (go_quiet (first | ((with_reducible refine gate_dst (N := 2) rfl ?_); (try (refine gate_guard (by rfl) ?_; dsimp only)); refine box_event ?hg (N := 2) ?hd (cs := #[.int .i64 pc, .string pa]) (t := 30) ?hr ?_; (case hd => rfl); (case hg => rfl); (case hr => first | (go_simp; done) | (go_simp; rfl)); intro pg hg w4 hbox hb; have pb := am_ (hbox); have ph := sz_ HB hg; have pi := sz_ HB hg; replace HB := bs_ HB hb; clear hb hbox hg)); go_upto_region 1 with (first | ((with_reducible refine gate_dst (N := 2) rfl ?_); (try (refine gate_guard (by rfl) ?_; dsimp only)); refine box_event ?hg (N := 2) ?hd (cs := #[.int .i64 pc, .string pa]) (t := 30) ?hr ?_; (case hd => rfl); (case hg => rfl); (case hr => first | (go_simp; done) | (go_simp; rfl)); intro pg hg w4 hbox hb; have pb := am_ (hbox); have ph := sz_ HB hg; have pi := sz_ HB hg; replace HB := bs_ HB hb; clear hb hbox hg)))
 (try simp only [Act.put, List.setIfInBounds_toArray, List.set_cons_zero, List.set_cons_succ]);go_cut [13] (fun pj wc => ∃ (kq : Nat) (pe : Bool), pj = .bool pe ∧ Aside0 (tollref03_Holds.j0 kq a1 pe pc pa = some r) ∧ Aside0 (kq ≤ k) ∧ Aside0 (wc.heap[pg]? = some (.cells #[.int .i64 pc, .string pa] 30 (0, 0))) ∧ Aside0 (Below w.heap.size w wc))
 case first =>
  have H := HC3.out;clear HC3;obtain ⟨pf, A5, H⟩ := bnd_ H;by_cases c6 : pf = true
  ·subst c6
   replace H := ift_ H;obtain ⟨pd, A7, H⟩ := bnd_ H;have H' := Aside0.mk H;clear H;obtain ⟨pu, pv, pw, px⟩ := blk2 pb.out;go_wp2_with (first | (go_at_call 66; (with_reducible refine (tollref03_May.calls k pc pa true _ A5.out).mono ?_); rintro e w9 ⟨rfl, hb⟩; replace pb := bb_ pb hb; replace HB := bs_ HB hb; (try clear hb)) | (go_at_call 57; (with_reducible refine (tollref03_Is.calls k a1 pd _ A7.out).mono ?_); rintro e w' ⟨rfl, ⟨nd, rfl⟩⟩; (try first | exact ⟨rfl, _, World.drewN_drewN _ _ _⟩ | exact ⟨rfl, _, Eq.trans (World.drewN_drewN _ _ _) (congrArg (World.drewN _) (Nat.add_assoc _ _ _))⟩)));repeat (go_quiet (first | (go_at_call 66; (with_reducible refine (tollref03_May.calls k pc pa true _ A5.out).mono ?_); rintro e w9 ⟨rfl, hb⟩; replace pb := bb_ pb hb; replace HB := bs_ HB hb; (try clear hb)) | (go_at_call 57; (with_reducible refine (tollref03_Is.calls k a1 pd _ A7.out).mono ?_); rintro e w' ⟨rfl, ⟨nd, rfl⟩⟩; (try first | exact ⟨rfl, _, World.drewN_drewN _ _ _⟩ | exact ⟨rfl, _, Eq.trans (World.drewN_drewN _ _ _) (congrArg (World.drewN _) (Nat.add_assoc _ _ _))⟩))); try go_wp2_with (first | (go_at_call 66; (with_reducible refine (tollref03_May.calls k pc pa true _ A5.out).mono ?_); rintro e w9 ⟨rfl, hb⟩; replace pb := bb_ pb hb; replace HB := bs_ HB hb; (try clear hb)) | (go_at_call 57; (with_reducible refine (tollref03_Is.calls k a1 pd _ A7.out).mono ?_); rintro e w' ⟨rfl, ⟨nd, rfl⟩⟩; (try first | exact ⟨rfl, _, World.drewN_drewN _ _ _⟩ | exact ⟨rfl, _, Eq.trans (World.drewN_drewN _ _ _) (congrArg (World.drewN _) (Nat.add_assoc _ _ _))⟩))))
   go_meet
   case rel => exact ⟨_, (!pd), sd_, H', ⟨le_⟩, ⟨blk_ pb.out⟩, ⟨bel_ HB.out⟩⟩
  ·replace c6 := Bool.eq_false_iff.mpr c6
   subst c6;replace H := iff_ H;have H' := Aside0.mk H;clear H;obtain ⟨pz, pA, pB, pC⟩ := blk2 pb.out;go_wp2_with (first | (go_at_call 66; (with_reducible refine (tollref03_May.calls k pc pa false _ A5.out).mono ?_); rintro e w11 ⟨rfl, hb⟩; replace pb := bb_ pb hb; replace HB := bs_ HB hb; (try clear hb)));repeat (go_quiet (first | (go_at_call 66; (with_reducible refine (tollref03_May.calls k pc pa false _ A5.out).mono ?_); rintro e w11 ⟨rfl, hb⟩; replace pb := bb_ pb hb; replace HB := bs_ HB hb; (try clear hb))); try go_wp2_with (first | (go_at_call 66; (with_reducible refine (tollref03_May.calls k pc pa false _ A5.out).mono ?_); rintro e w11 ⟨rfl, hb⟩; replace pb := bb_ pb hb; replace HB := bs_ HB hb; (try clear hb))))
   go_meet
   case rel => exact ⟨_, (true), sd_, H', ⟨le_⟩, ⟨blk_ pb.out⟩, ⟨bel_ HB.out⟩⟩
 case rest =>
  clear HC3;obtain ⟨kq, pe, rfl, HA, HJ2, pb, HB⟩ := hcut;cases kq with
  | zero => exact absurd HA.out (by simp [tollref03_Holds.j0])
  | succ kj2 =>
   have H := HA.out;clear HA;simp only [tollref03_Holds.j0] at H;by_cases c12 : pe = true
   ·subst c12
    replace H := ift_ H;obtain rfl := Option.some.inj H;go_wp2;repeat (go_quiet (fail); try go_wp2)
    go_ret;exact ⟨fi_, bel_ HB.out⟩
   ·replace c12 := Bool.eq_false_iff.mpr c12
    subst c12;replace H := iff_ H;by_cases c13 : pc = 1
    ·rw [if_pos c13] at H
     have pk := eqb_ c13;have pl := neb_ c13;clear c13;obtain rfl := Option.some.inj H;obtain ⟨pD, pE, pF, pG⟩ := blk2 pb.out;go_wp2;repeat (go_quiet (fail); try go_wp2)
     go_ret;exact ⟨fi_, bel_ HB.out⟩
    ·rw [if_neg c13] at H
     have pk := eqf_ c13;have pl := nef_ c13;by_cases c15 : pa.toList = a1.toList
     ·rw [if_pos c15] at H
      have pm := eqb_ c15;have pn := neb_ c15;clear c15;obtain rfl := Option.some.inj H;obtain ⟨pH, pI, pJ, pK⟩ := blk2 pb.out;go_wp2;repeat (go_quiet (fail); try go_wp2)
      go_ret;exact ⟨fi_, bel_ HB.out⟩
     ·rw [if_neg c15] at H
      have pm := eqf_ c15;have pn := nef_ c15;by_cases c17 : (pa.size : Int) = 1
      ·rw [if_pos c17] at H
       have po := eqb_ c17;have pp := neb_ c17;clear c17;obtain rfl := Option.some.inj H;obtain ⟨pL, pM, pN, pO⟩ := blk2 pb.out;go_wp2;repeat (go_quiet (fail); try go_wp2)
       go_ret;exact ⟨fi_, bel_ HB.out⟩
      ·rw [if_neg c17] at H
       have po := eqf_ c17;have pp := nef_ c17;by_cases c19 : (a1.size : Int) > (pa.size : Int)
       ·rw [if_pos c19] at H
        have pq := decide_eq_true c19;have pr : decide (pa.size < a1.size) = true := decide_eq_true (Int.ofNat_lt.mp c19);clear c19;by_cases c20 : 0 ≤ (pa.size : Int)
        ·rw [if_pos c20] at H
         have pP := eq_true c20;have pQ := decide_eq_true c20;clear c20;by_cases c21 : (pa.size : Int) ≤ (a1.size : Int)
         ·rw [if_pos c21] at H
          have pR := eq_true c21;have pS := decide_eq_true c21;clear c21;by_cases c22 : (a1.extract 0 pa.size).toList = pa.toList
          ·rw [if_pos c22] at H
           have ps := eqb_ c22;have pt := neb_ c22;clear c22;by_cases c23 : (pa.size : Int) < (a1.size : Int)
           ·rw [if_pos c23] at H
            have pT := decide_eq_true c23;have pU : decide (pa.size < a1.size) = true := decide_eq_true (Int.ofNat_lt.mp c23);clear c23;obtain rfl := Option.some.inj H;obtain ⟨pV, pW, pX, pY⟩ := blk2 pb.out;have p24 : 0 ≤ ((pa.size : Int) : Int) := of_decide_eq_true as_;have q24 : (pa.size : Int) < (a1.size : Int) := of_decide_eq_true as_;have hx24 := bt_at a1 (pa.size : Int);have hxn24 := bt_nat a1 pa.size;replace p24 := eq_true p24;replace q24 := eq_true q24;go_wp2;repeat (go_quiet (fail); try go_wp2)
            go_ret;exact ⟨fi_, bel_ HB.out⟩
           ·rw [if_neg c23] at H
            cases H
          ·rw [if_neg c22] at H
           have ps := eqf_ c22;have pt := nef_ c22;obtain rfl := Option.some.inj H;obtain ⟨pZ, p0, p1, p2⟩ := blk2 pb.out;go_wp2;repeat (go_quiet (fail); try go_wp2)
           go_ret;exact ⟨fi_, bel_ HB.out⟩
         ·rw [if_neg c21] at H
          cases H
        ·rw [if_neg c20] at H
         cases H
       ·rw [if_neg c19] at H
        have pq := decide_eq_false c19;have pr : decide (pa.size < a1.size) = false := decide_eq_false (fun h => c19 (Int.ofNat_lt.mpr h));clear c19;obtain rfl := Option.some.inj H;obtain ⟨p3, p4, p5, p6⟩ := blk2 pb.out;go_wp2;repeat (go_quiet (fail); try go_wp2)
        go_ret;exact ⟨fi_, bel_ HB.out⟩

/-! ### tollref05_Set: function 42 -/
def tollref05_Set.l0 : Nat → List (S59) → ByteArray → ByteArray → List (S59) → Bool → Int → Option ((List (S59)))
 | 0, _, _, _, _, _, _ => none
 | k + 1, x0, x1, x2, x7, x8, x9 => if x9 < (x0.length : Int) then (if 0 ≤ x9 then ((tollref05_Same.f k ((rd_T59 x0 x9).f0) x1).bind fun t317 => (if t317 = true then (if x8 = true then (tollref05_Set.l0 k x0 x1 x2 x7 true (wrap64 (x9 + 1))) else (if x7.length < 4398046511104 then (tollref05_Set.l0 k x0 x1 x2 (x7 ++ [(⟨x1, x2⟩ : S59)]) true (wrap64 (x9 + 1))) else (none))) else (if x7.length < 4398046511104 then (tollref05_Set.l0 k x0 x1 x2 (x7 ++ [(⟨(rd_T59 x0 x9).f0, (rd_T59 x0 x9).f1⟩ : S59)]) x8 (wrap64 (x9 + 1))) else (none)))) else (none)) else (if x8 = true then (some x7) else (if x7.length < 4398046511104 then (some (x7 ++ [(⟨x1, x2⟩ : S59)])) else (none)))
def tollref05_Set.f (k : Nat) (l0 : List (S59)) (a1 : ByteArray) (a2 : ByteArray) : Option ((List (S59))) := tollref05_Set.l0 k l0 a1 a2 ([] : List (S59)) false 0
theorem tollref05_Set.mono_l : ∀ k, (∀ y0 y1 y2 y3 y4 y5, LeO (tollref05_Set.l0 k y0 y1 y2 y3 y4 y5) (tollref05_Set.l0 (k + 1) y0 y1 y2 y3 y4 y5))
 | 0 => fun _ _ _ _ _ _ r h => by simp [tollref05_Set.l0] at h
 | k + 1 => by
  have ih0 := tollref05_Set.mono_l k
  ·intro y0 y1 y2 y3 y4 y5
   unfold tollref05_Set.l0
   repeat' with_reducible first | apply ih0 | apply tollref05_Same.mono | apply LeO.refl | apply LeO.none | apply LeO.ite | refine LeO.bind ?_ fun _ => ?_
theorem tollref05_Set.mono : ∀ a0 a1 a2 k, LeO (tollref05_Set.f k a0 a1 a2) (tollref05_Set.f (k + 1) a0 a1 a2) := by
 intro a0 a1 a2 k
 have ih0 := tollref05_Set.mono_l k
 unfold tollref05_Set.f
 repeat' with_reducible first | apply ih0 | apply tollref05_Same.mono | apply LeO.refl | apply LeO.none | apply LeO.ite | refine LeO.bind ?_ fun _ => ?_
set_option maxHeartbeats 8000000 in
set_option maxRecDepth 100000 in
theorem tollref05_Set.calls (k : Nat) (A0 : Option Addr) (c0 : Nat) (l0 : List (S59)) (a1 : ByteArray) (a2 : ByteArray) (r : List (S59)) (w : World) (hr0 : Kd.C k59 w A0 l0.length l0) (hc0 : l0.length ≤ c0) (h : tollref05_Set.f k l0 a1 a2 = some r) :
  Calls Tryz.prog 42 #[.slice A0 l0.length c0, .string a1, .string a2] w fun e w' => ∃ v0_ : Value, e = .returned (v0_) ∧ Kd.R k59 59 w' w.heap.size (fun _ => True) v0_ r ∧ Below w.heap.size w w' := by
 have hu59 := Tryz.underlying59;have HR0 := Aside0.mk hr0;have HC0 := Aside0.mk hc0;clear hr0 hc0;have HB := am_ (Below.refl w.heap.size w);have H : (tollref05_Set.l0 k l0 a1 a2 ([] : List (S59)) false 0) = some r := h;clear h;have H' := Aside0.mk H;clear H;go_enter Tryz.func42, Tryz.ntmps42;go_wp2;go_loopg [7, 8, 9] k (fun kq v7 v8 v9 w' => ∃ (pc : List (S59)) (pf : Bool) (pa : Int), v8 = .bool pf ∧ v9 = .int .i64 pa ∧ Aside0 (tollref05_Set.l0 kq l0 a1 a2 pc pf pa = some r) ∧ Aside0 (kq ≤ k) ∧ Aside0 (Kd.R k59 59 w' w.heap.size (fun _ => True) v7 pc) ∧ Aside0 (Below w.heap.size w w'))
 case atStart => exact ⟨(([] : List (S59))), (false), (0), sd_, sd_, H', ⟨Nat.le_refl _⟩, ⟨by first | exact Kd.R_nil _ _ _ _ _ | exact Kd.N_nil _ _ _ _ _ | exact Kd.V_nil _ _ _ _ _ | exact Kd.Q_nil _ _ _ _ _ | exact Kd.S_nil _ _ _ _ _⟩, ⟨bel_ HB.out⟩⟩
 case round =>
  clear H';obtain ⟨pc, pf, pa, rfl, rfl, HA, HK1, pb, HB⟩ := hrel;cases gk with
  | zero => exact absurd HA.out (by simp [tollref05_Set.l0])
  | succ k1 =>
   have H := HA.out;clear HA;simp only [tollref05_Set.l0] at H;by_cases c4 : pa < (l0.length : Int)
   ·rw [if_pos c4] at H
    have pl := decide_eq_true c4;clear c4;by_cases c5 : 0 ≤ pa
    ·rw [if_pos c5] at H
     have pz := decide_eq_true c5;clear c5;obtain ⟨pm, A6, H⟩ := bnd_ H;by_cases c7 : pm = true
     ·subst c7
      replace H := ift_ H;by_cases c8 : pf = true
      ·subst c8
       replace H := ift_ H;have H' := Aside0.mk H;clear H;have p316 : 0 ≤ (pa : Int) := of_decide_eq_true as_;have q316 : pa < (l0.length : Int) := of_decide_eq_true as_;obtain ⟨pg, e316, pd, pe⟩ := at_T59 HR0.out pa p316 q316;cases e316
       replace pd := hbc_ HB pd;replace pe := hbc_ HB pe;replace p316 := eq_true p316;replace q316 := eq_true q316;go_wp2_with (first | ((with_reducible refine gate_callee (f := 23) rfl ?_); refine goesL_ (some 22) rfl rfl Tryz.func23 kr_ rfl #[.string ((rd_T59 l0 pa).f0), .string a1] rfl rl_ ?_; (with_reducible refine (tollref05_Same.calls k1 ((rd_T59 l0 pa).f0) a1 true _ A6.out).mono ?_); rintro e w9 ⟨rfl, hb⟩; refine ⟨_, rfl, ?_⟩; replace pb := rb_ pb hb; replace HB := bs_ HB hb; (try clear hb)));go_roundg k1
       case measure => have := HK1.out; omega
       case rel => exact ⟨(pc), (true), (wrap64 (pa + 1)), sd_, sd_, H', ⟨le1_ HK1.out⟩, ⟨R_ pb.out⟩, ⟨bel_ HB.out⟩⟩
      ·replace c8 := Bool.eq_false_iff.mpr c8
       subst c8;replace H := iff_ H;by_cases c10 : pc.length < 4398046511104
       ·rw [if_pos c10] at H
        have pn := Aside0.mk c10;clear c10;obtain ⟨ph, hy318⟩ : ∃ y_ : List (S59), y_ = (pc ++ [(⟨a1, a2⟩ : S59)]) := ⟨_, rfl⟩;replace H : (tollref05_Set.l0 k1 l0 a1 a2 ph true (wrap64 (pa + 1))) = some r := by first | (rw [hy318]; with_reducible exact H) | (have H2_ := (Option.bind_some _ _).symm.trans H; rw [hy318]; with_reducible exact H2_) | (have H2_ := (Option.bind_some _ _).symm.trans H; with_reducible exact H2_) | with_reducible exact H | (rw [hy318]; exact H) | exact H
        have po := Aside0.mk hy318;clear hy318;have H' := Aside0.mk H;clear H;have p316 : 0 ≤ (pa : Int) := of_decide_eq_true as_;have q316 : pa < (l0.length : Int) := of_decide_eq_true as_;obtain ⟨pg, e316, pd, pe⟩ := at_T59 HR0.out pa p316 q316;cases e316
        replace pd := hbc_ HB pd;replace pe := hbc_ HB pe;replace p316 := eq_true p316;replace q316 := eq_true q316;go_wp2_with (first | ((with_reducible refine gate_callee (f := 23) rfl ?_); refine goesL_ (some 22) rfl rfl Tryz.func23 kr_ rfl #[.string ((rd_T59 l0 pa).f0), .string a1] rfl rl_ ?_; (with_reducible refine (tollref05_Same.calls k1 ((rd_T59 l0 pa).f0) a1 true _ A6.out).mono ?_); rintro e w11 ⟨rfl, hb⟩; refine ⟨_, rfl, ?_⟩; replace pb := rb_ pb hb; replace HB := bs_ HB hb; (try clear hb)) | ((with_reducible refine gate_builtin (b := .append) (xs := #[.tmp 33, .tmp 37]) rfl ?_); at_builtin; refine Kd.R_append k59 (w0 := w) w.heap.size rfl (.tmp 33) (.tmp 37) 31 59 (.agg #[(.string ⟨#[]⟩), (.string ⟨#[]⟩)]) 32 rfl Tryz.underlying31 info59 rfl (by decide) (by omega) u7 pc (⟨a1, a2⟩ : S59) [.string a1, .string a2] (fun _ => True) (fun _ => False) rfl rfl ?aP (fun _ hk => hk.elim) ?aF ?aO ?aB ?aS ?aL ?_; (case aP => exact k59_mkM _ _ _ (⟨a1, a2⟩ : S59)); (case aB => exact (bel_ HB.out)); (case aF => exact (fun _ _ => trivial)); (case aO => exact (R_ pb.out)); (case aS => exact (below_size (bel_ HB.out))); (case aL => have := pn.out; omega); intro pA w12 ho hb hg hat; rw [← po.out] at ho; replace HB := am_ (hb); have pp := am_ (ho); clear pb ho hb hg hat));go_roundg k1
        case measure => have := HK1.out; omega
        case rel => exact ⟨(ph), (true), (wrap64 (pa + 1)), sd_, sd_, H', ⟨le1_ HK1.out⟩, ⟨R_ pp.out⟩, ⟨bel_ HB.out⟩⟩
       ·rw [if_neg c10] at H
        cases H
     ·replace c7 := Bool.eq_false_iff.mpr c7
      subst c7;replace H := iff_ H;by_cases c13 : pc.length < 4398046511104
      ·rw [if_pos c13] at H
       have pq := Aside0.mk c13;clear c13;obtain ⟨pi, hy322⟩ : ∃ y_ : List (S59), y_ = (pc ++ [(⟨(rd_T59 l0 pa).f0, (rd_T59 l0 pa).f1⟩ : S59)]) := ⟨_, rfl⟩;replace H : (tollref05_Set.l0 k1 l0 a1 a2 pi pf (wrap64 (pa + 1))) = some r := by first | (rw [hy322]; with_reducible exact H) | (have H2_ := (Option.bind_some _ _).symm.trans H; rw [hy322]; with_reducible exact H2_) | (have H2_ := (Option.bind_some _ _).symm.trans H; with_reducible exact H2_) | with_reducible exact H | (rw [hy322]; exact H) | exact H
       have pr := Aside0.mk hy322;clear hy322;have H' := Aside0.mk H;clear H;have p316 : 0 ≤ (pa : Int) := of_decide_eq_true as_;have q316 : pa < (l0.length : Int) := of_decide_eq_true as_;obtain ⟨pg, e316, pd, pe⟩ := at_T59 HR0.out pa p316 q316;cases e316
       replace pd := hbc_ HB pd;replace pe := hbc_ HB pe;replace p316 := eq_true p316;replace q316 := eq_true q316;go_wp2_with (first | ((with_reducible refine gate_callee (f := 23) rfl ?_); refine goesL_ (some 22) rfl rfl Tryz.func23 kr_ rfl #[.string ((rd_T59 l0 pa).f0), .string a1] rfl rl_ ?_; (with_reducible refine (tollref05_Same.calls k1 ((rd_T59 l0 pa).f0) a1 false _ A6.out).mono ?_); rintro e w14 ⟨rfl, hb⟩; refine ⟨_, rfl, ?_⟩; replace pb := rb_ pb hb; replace HB := bs_ HB hb; (try clear hb); have p321 : 0 ≤ (pa : Int) := of_decide_eq_true as_; have q321 : pa < (l0.length : Int) := of_decide_eq_true as_; obtain ⟨ps, e321, pj, pk⟩ := at_T59 HR0.out pa p321 q321; obtain rfl : pg = ps := (by injection e321); replace pj := hbc_ HB pj; replace pk := hbc_ HB pk; replace p321 := eq_true p321; replace q321 := eq_true q321) | ((with_reducible refine gate_builtin (b := .append) (xs := #[.tmp 24, .tmp 29]) rfl ?_); at_builtin; refine Kd.R_append k59 (w0 := w) w.heap.size rfl (.tmp 24) (.tmp 29) 31 59 (.agg #[(.string ⟨#[]⟩), (.string ⟨#[]⟩)]) 32 rfl Tryz.underlying31 info59 rfl (by decide) (by omega) u7 pc (⟨(rd_T59 l0 pa).f0, (rd_T59 l0 pa).f1⟩ : S59) [.string ((rd_T59 l0 pa).f0), .string ((rd_T59 l0 pa).f1)] (fun _ => True) (fun _ => False) rfl rfl ?aP (fun _ hk => hk.elim) ?aF ?aO ?aB ?aS ?aL ?_; (case aP => exact k59_mkM _ _ _ (⟨(rd_T59 l0 pa).f0, (rd_T59 l0 pa).f1⟩ : S59)); (case aB => exact (bel_ HB.out)); (case aF => exact (fun _ _ => trivial)); (case aO => exact (R_ pb.out)); (case aS => exact (below_size (bel_ HB.out))); (case aL => have := pq.out; omega); intro pB w15 ho hb hg hat; rw [← pr.out] at ho; replace HB := am_ (hb); have pt := am_ (ho); clear pb ho hb hg hat));go_roundg k1
       case measure => have := HK1.out; omega
       case rel => exact ⟨(pi), (pf), (wrap64 (pa + 1)), sd_, sd_, H', ⟨le1_ HK1.out⟩, ⟨R_ pt.out⟩, ⟨bel_ HB.out⟩⟩
      ·rw [if_neg c13] at H
       cases H
    ·rw [if_neg c5] at H
     cases H
   ·rw [if_neg c4] at H
    have pl := decide_eq_false c4;clear c4;by_cases c16 : pf = true
    ·subst c16
     replace H := ift_ H;obtain rfl := Option.some.inj H;go_wp2;go_ret;exact ⟨_, by first | rfl | (simp [errW_none, errW_some] <;> rfl) | (simp [*, errW_none, errW_some] <;> rfl), by (with_reducible repeat (first | apply Kd.R_alloc | apply Kd.R_drewN | apply Kd.R_drew)); exact pb.out, bel_ HB.out⟩
    ·replace c16 := Bool.eq_false_iff.mpr c16
     subst c16;replace H := iff_ H;by_cases c17 : pc.length < 4398046511104
     ·rw [if_pos c17] at H
      have pu := Aside0.mk c17;clear c17;obtain ⟨pv, hy313⟩ : ∃ y_ : List (S59), y_ = (pc ++ [(⟨a1, a2⟩ : S59)]) := ⟨_, rfl⟩;replace H : (some pv) = some r := by first | (rw [hy313]; with_reducible exact H) | (have H2_ := (Option.bind_some _ _).symm.trans H; rw [hy313]; with_reducible exact H2_) | (have H2_ := (Option.bind_some _ _).symm.trans H; with_reducible exact H2_) | with_reducible exact H | (rw [hy313]; exact H) | exact H
      have pw := Aside0.mk hy313;clear hy313;obtain rfl := Option.some.inj H;go_wp2_with (first | ((with_reducible refine gate_builtin (b := .append) (xs := #[.tmp 41, .tmp 45]) rfl ?_); at_builtin; refine Kd.R_append k59 (w0 := w) w.heap.size rfl (.tmp 41) (.tmp 45) 31 59 (.agg #[(.string ⟨#[]⟩), (.string ⟨#[]⟩)]) 32 rfl Tryz.underlying31 info59 rfl (by decide) (by omega) u7 pc (⟨a1, a2⟩ : S59) [.string a1, .string a2] (fun _ => True) (fun _ => False) rfl rfl ?aP (fun _ hk => hk.elim) ?aF ?aO ?aB ?aS ?aL ?_; (case aP => exact k59_mkM _ _ _ (⟨a1, a2⟩ : S59)); (case aB => exact (bel_ HB.out)); (case aF => exact (fun _ _ => trivial)); (case aO => exact (R_ pb.out)); (case aS => exact (below_size (bel_ HB.out))); (case aL => have := pu.out; omega); intro pC w18 ho hb hg hat; rw [← pw.out] at ho; replace HB := am_ (hb); have px := am_ (ho); clear pb ho hb hg hat));go_ret;exact ⟨_, by first | rfl | (simp [errW_none, errW_some] <;> rfl) | (simp [*, errW_none, errW_some] <;> rfl), by (with_reducible repeat (first | apply Kd.R_alloc | apply Kd.R_drewN | apply Kd.R_drew)); exact px.out, bel_ HB.out⟩
     ·rw [if_neg c17] at H
      cases H

/-! ### tollref05_Drop: function 43 -/
def tollref05_Drop.l0 : Nat → List (S59) → ByteArray → List (S59) → Int → Option ((List (S59)))
 | 0, _, _, _, _ => none
 | k + 1, x0, x1, x5, x6 => if x6 < (x0.length : Int) then (if 0 ≤ x6 then ((tollref05_Same.f k ((rd_T59 x0 x6).f0) x1).bind fun t326 => (if t326 = true then (tollref05_Drop.l0 k x0 x1 x5 (wrap64 (x6 + 1))) else (if x5.length < 4398046511104 then (tollref05_Drop.l0 k x0 x1 (x5 ++ [(⟨(rd_T59 x0 x6).f0, (rd_T59 x0 x6).f1⟩ : S59)]) (wrap64 (x6 + 1))) else (none)))) else (none)) else (some x5)
def tollref05_Drop.f (k : Nat) (l0 : List (S59)) (a1 : ByteArray) : Option ((List (S59))) := tollref05_Drop.l0 k l0 a1 ([] : List (S59)) 0
theorem tollref05_Drop.mono_l : ∀ k, (∀ y0 y1 y2 y3, LeO (tollref05_Drop.l0 k y0 y1 y2 y3) (tollref05_Drop.l0 (k + 1) y0 y1 y2 y3))
 | 0 => fun _ _ _ _ r h => by simp [tollref05_Drop.l0] at h
 | k + 1 => by
  have ih0 := tollref05_Drop.mono_l k
  ·intro y0 y1 y2 y3
   unfold tollref05_Drop.l0
   repeat' with_reducible first | apply ih0 | apply tollref05_Same.mono | apply LeO.refl | apply LeO.none | apply LeO.ite | refine LeO.bind ?_ fun _ => ?_
theorem tollref05_Drop.mono : ∀ a0 a1 k, LeO (tollref05_Drop.f k a0 a1) (tollref05_Drop.f (k + 1) a0 a1) := by
 intro a0 a1 k
 have ih0 := tollref05_Drop.mono_l k
 unfold tollref05_Drop.f
 repeat' with_reducible first | apply ih0 | apply tollref05_Same.mono | apply LeO.refl | apply LeO.none | apply LeO.ite | refine LeO.bind ?_ fun _ => ?_
set_option maxHeartbeats 8000000 in
set_option maxRecDepth 100000 in
theorem tollref05_Drop.calls (k : Nat) (A0 : Option Addr) (c0 : Nat) (l0 : List (S59)) (a1 : ByteArray) (r : List (S59)) (w : World) (hr0 : Kd.C k59 w A0 l0.length l0) (hc0 : l0.length ≤ c0) (h : tollref05_Drop.f k l0 a1 = some r) :
  Calls Tryz.prog 43 #[.slice A0 l0.length c0, .string a1] w fun e w' => ∃ v0_ : Value, e = .returned (v0_) ∧ Kd.R k59 59 w' w.heap.size (fun _ => True) v0_ r ∧ Below w.heap.size w w' := by
 have hu59 := Tryz.underlying59;have HR0 := Aside0.mk hr0;have HC0 := Aside0.mk hc0;clear hr0 hc0;have HB := am_ (Below.refl w.heap.size w);have H : (tollref05_Drop.l0 k l0 a1 ([] : List (S59)) 0) = some r := h;clear h;have H' := Aside0.mk H;clear H;go_enter Tryz.func43, Tryz.ntmps43;go_wp2;go_loopg [5, 6] k (fun kq v5 v6 w' => ∃ (pc : List (S59)) (pa : Int), v6 = .int .i64 pa ∧ Aside0 (tollref05_Drop.l0 kq l0 a1 pc pa = some r) ∧ Aside0 (kq ≤ k) ∧ Aside0 (Kd.R k59 59 w' w.heap.size (fun _ => True) v5 pc) ∧ Aside0 (Below w.heap.size w w'))
 case atStart => exact ⟨(([] : List (S59))), (0), sd_, H', ⟨Nat.le_refl _⟩, ⟨by first | exact Kd.R_nil _ _ _ _ _ | exact Kd.N_nil _ _ _ _ _ | exact Kd.V_nil _ _ _ _ _ | exact Kd.Q_nil _ _ _ _ _ | exact Kd.S_nil _ _ _ _ _⟩, ⟨bel_ HB.out⟩⟩
 case round =>
  clear H';obtain ⟨pc, pa, rfl, HA, HK1, pb, HB⟩ := hrel;cases gk with
  | zero => exact absurd HA.out (by simp [tollref05_Drop.l0])
  | succ k1 =>
   have H := HA.out;clear HA;simp only [tollref05_Drop.l0] at H;by_cases c3 : pa < (l0.length : Int)
   ·rw [if_pos c3] at H
    have pj := decide_eq_true c3;clear c3;by_cases c4 : 0 ≤ pa
    ·rw [if_pos c4] at H
     have pp := decide_eq_true c4;clear c4;obtain ⟨pk, A5, H⟩ := bnd_ H;by_cases c6 : pk = true
     ·subst c6
      replace H := ift_ H;have H' := Aside0.mk H;clear H;have p325 : 0 ≤ (pa : Int) := of_decide_eq_true as_;have q325 : pa < (l0.length : Int) := of_decide_eq_true as_;obtain ⟨pf, e325, pd, pe⟩ := at_T59 HR0.out pa p325 q325;cases e325
      replace pd := hbc_ HB pd;replace pe := hbc_ HB pe;replace p325 := eq_true p325;replace q325 := eq_true q325;go_wp2_with (first | ((with_reducible refine gate_callee (f := 23) rfl ?_); refine goesL_ (some 19) rfl rfl Tryz.func23 kr_ rfl #[.string ((rd_T59 l0 pa).f0), .string a1] rfl rl_ ?_; (with_reducible refine (tollref05_Same.calls k1 ((rd_T59 l0 pa).f0) a1 true _ A5.out).mono ?_); rintro e w7 ⟨rfl, hb⟩; refine ⟨_, rfl, ?_⟩; replace pb := rb_ pb hb; replace HB := bs_ HB hb; (try clear hb)));go_roundg k1
      case measure => have := HK1.out; omega
      case rel => exact ⟨(pc), (wrap64 (pa + 1)), sd_, H', ⟨le1_ HK1.out⟩, ⟨R_ pb.out⟩, ⟨bel_ HB.out⟩⟩
     ·replace c6 := Bool.eq_false_iff.mpr c6
      subst c6;replace H := iff_ H;by_cases c8 : pc.length < 4398046511104
      ·rw [if_pos c8] at H
       have pl := Aside0.mk c8;clear c8;obtain ⟨pg, hy328⟩ : ∃ y_ : List (S59), y_ = (pc ++ [(⟨(rd_T59 l0 pa).f0, (rd_T59 l0 pa).f1⟩ : S59)]) := ⟨_, rfl⟩;replace H : (tollref05_Drop.l0 k1 l0 a1 pg (wrap64 (pa + 1))) = some r := by first | (rw [hy328]; with_reducible exact H) | (have H2_ := (Option.bind_some _ _).symm.trans H; rw [hy328]; with_reducible exact H2_) | (have H2_ := (Option.bind_some _ _).symm.trans H; with_reducible exact H2_) | with_reducible exact H | (rw [hy328]; exact H) | exact H
       have pm := Aside0.mk hy328;clear hy328;have H' := Aside0.mk H;clear H;have p325 : 0 ≤ (pa : Int) := of_decide_eq_true as_;have q325 : pa < (l0.length : Int) := of_decide_eq_true as_;obtain ⟨pf, e325, pd, pe⟩ := at_T59 HR0.out pa p325 q325;cases e325
       replace pd := hbc_ HB pd;replace pe := hbc_ HB pe;replace p325 := eq_true p325;replace q325 := eq_true q325;go_wp2_with (first | ((with_reducible refine gate_callee (f := 23) rfl ?_); refine goesL_ (some 19) rfl rfl Tryz.func23 kr_ rfl #[.string ((rd_T59 l0 pa).f0), .string a1] rfl rl_ ?_; (with_reducible refine (tollref05_Same.calls k1 ((rd_T59 l0 pa).f0) a1 false _ A5.out).mono ?_); rintro e w9 ⟨rfl, hb⟩; refine ⟨_, rfl, ?_⟩; replace pb := rb_ pb hb; replace HB := bs_ HB hb; (try clear hb); have p327 : 0 ≤ (pa : Int) := of_decide_eq_true as_; have q327 : pa < (l0.length : Int) := of_decide_eq_true as_; obtain ⟨pn, e327, ph, pi⟩ := at_T59 HR0.out pa p327 q327; obtain rfl : pf = pn := (by injection e327); replace ph := hbc_ HB ph; replace pi := hbc_ HB pi; replace p327 := eq_true p327; replace q327 := eq_true q327) | ((with_reducible refine gate_builtin (b := .append) (xs := #[.tmp 21, .tmp 26]) rfl ?_); at_builtin; refine Kd.R_append k59 (w0 := w) w.heap.size rfl (.tmp 21) (.tmp 26) 31 59 (.agg #[(.string ⟨#[]⟩), (.string ⟨#[]⟩)]) 32 rfl Tryz.underlying31 info59 rfl (by decide) (by omega) u5 pc (⟨(rd_T59 l0 pa).f0, (rd_T59 l0 pa).f1⟩ : S59) [.string ((rd_T59 l0 pa).f0), .string ((rd_T59 l0 pa).f1)] (fun _ => True) (fun _ => False) rfl rfl ?aP (fun _ hk => hk.elim) ?aF ?aO ?aB ?aS ?aL ?_; (case aP => exact k59_mkM _ _ _ (⟨(rd_T59 l0 pa).f0, (rd_T59 l0 pa).f1⟩ : S59)); (case aB => exact (bel_ HB.out)); (case aF => exact (fun _ _ => trivial)); (case aO => exact (R_ pb.out)); (case aS => exact (below_size (bel_ HB.out))); (case aL => have := pl.out; omega); intro pq w10 ho hb hg hat; rw [← pm.out] at ho; replace HB := am_ (hb); have po := am_ (ho); clear pb ho hb hg hat));go_roundg k1
       case measure => have := HK1.out; omega
       case rel => exact ⟨(pg), (wrap64 (pa + 1)), sd_, H', ⟨le1_ HK1.out⟩, ⟨R_ po.out⟩, ⟨bel_ HB.out⟩⟩
      ·rw [if_neg c8] at H
       cases H
    ·rw [if_neg c4] at H
     cases H
   ·rw [if_neg c3] at H
    have pj := decide_eq_false c3;clear c3;obtain rfl := Option.some.inj H;go_wp2;go_ret;exact ⟨_, by first | rfl | (simp [errW_none, errW_some] <;> rfl) | (simp [*, errW_none, errW_some] <;> rfl), by (with_reducible repeat (first | apply Kd.R_alloc | apply Kd.R_drewN | apply Kd.R_drew)); exact pb.out, bel_ HB.out⟩

/-! ### tollref03_Swap: function 67 -/
mutual
def tollref03_Swap.j0 : Nat → ByteArray → ByteArray → Bool → Int → ByteArray → Option (ByteArray × Int)
 | 0, _, _, _, _, _ => none
 | k + 1, x1, x2, x22, x332000, x332001 => if x22 = true then (some ((⟨#[]⟩ : ByteArray), 1)) else (if (x332001.size : Int) > 1 then (if 0 ≤ (x332001.size : Int) then (if (x332001.size : Int) ≤ (x2.size : Int) then (tollref03_Swap.j1 k x1 (x2.extract x332001.size x2.size)) else (none)) else (none)) else (if (x2.size : Int) > 1 then (tollref03_Swap.j1 k x1 x2) else (tollref03_Swap.j1 k x1 (⟨#[]⟩ : ByteArray))))
def tollref03_Swap.j1 : Nat → ByteArray → ByteArray → Option (ByteArray × Int)
 | 0, _, _ => none
 | k + 1, x1, x8 => if (x1.size : Int) > 1 then (if x1.size + x8.size ≤ 9223372036854775807 then (tollref03_Swap.j2 k x1 (x1 ++ x8)) else (none)) else (tollref03_Swap.j2 k x1 x8)
def tollref03_Swap.j2 : Nat → ByteArray → ByteArray → Option (ByteArray × Int)
 | 0, _, _ => none
 | k + 1, x1, x8 => if x8.toList = ([] : List UInt8) then (if (x1.size : Int) > 60 then (some ((⟨#[]⟩ : ByteArray), 5)) else (some (x1, 0))) else (if (x8.size : Int) > 60 then (some ((⟨#[]⟩ : ByteArray), 5)) else (some (x8, 0)))
end
def tollref03_Swap.f (k : Nat) (a0_0 : Int) (a0_1 : ByteArray) (a1 : ByteArray) (a2 : ByteArray) : Option (ByteArray × Int) := if a0_0 = 2 then ((tollref03_Holds.f k a0_0 a0_1 a2).bind fun t332 => (if t332 = true then ((tollref03_Above.f k a1).bind fun t333 => (tollref03_Swap.j0 k a1 a2 (!t333) a0_0 a0_1)) else (tollref03_Swap.j0 k a1 a2 true a0_0 a0_1))) else (tollref03_Swap.j0 k a1 a2 true a0_0 a0_1)
theorem tollref03_Swap.mono_l : ∀ k, (∀ y0 y1 y2 y3 y4, LeO (tollref03_Swap.j0 k y0 y1 y2 y3 y4) (tollref03_Swap.j0 (k + 1) y0 y1 y2 y3 y4)) ∧ (∀ y0 y1, LeO (tollref03_Swap.j1 k y0 y1) (tollref03_Swap.j1 (k + 1) y0 y1)) ∧ (∀ y0 y1, LeO (tollref03_Swap.j2 k y0 y1) (tollref03_Swap.j2 (k + 1) y0 y1))
 | 0 => ⟨fun _ _ _ _ _ r h => by simp [tollref03_Swap.j0] at h, fun _ _ r h => by simp [tollref03_Swap.j1] at h, fun _ _ r h => by simp [tollref03_Swap.j2] at h⟩
 | k + 1 => by
  obtain ⟨ih0, ih1, ih2⟩ := tollref03_Swap.mono_l k
  refine ⟨?_, ?_, ?_⟩
  ·intro y0 y1 y2 y3 y4
   unfold tollref03_Swap.j0
   repeat' with_reducible first | apply ih0 | apply ih1 | apply ih2 | apply tollref03_Above.mono | apply tollref03_Holds.mono | apply LeO.refl | apply LeO.none | apply LeO.ite | refine LeO.bind ?_ fun _ => ?_
  ·intro y0 y1
   unfold tollref03_Swap.j1
   repeat' with_reducible first | apply ih0 | apply ih1 | apply ih2 | apply tollref03_Above.mono | apply tollref03_Holds.mono | apply LeO.refl | apply LeO.none | apply LeO.ite | refine LeO.bind ?_ fun _ => ?_
  ·intro y0 y1
   unfold tollref03_Swap.j2
   repeat' with_reducible first | apply ih0 | apply ih1 | apply ih2 | apply tollref03_Above.mono | apply tollref03_Holds.mono | apply LeO.refl | apply LeO.none | apply LeO.ite | refine LeO.bind ?_ fun _ => ?_
theorem tollref03_Swap.mono : ∀ a0 a1 a2 a3 k, LeO (tollref03_Swap.f k a0 a1 a2 a3) (tollref03_Swap.f (k + 1) a0 a1 a2 a3) := by
 intro a0 a1 a2 a3 k
 obtain ⟨ih0, ih1, ih2⟩ := tollref03_Swap.mono_l k
 unfold tollref03_Swap.f
 repeat' with_reducible first | apply ih0 | apply ih1 | apply ih2 | apply tollref03_Above.mono | apply tollref03_Holds.mono | apply LeO.refl | apply LeO.none | apply LeO.ite | refine LeO.bind ?_ fun _ => ?_
set_option maxHeartbeats 8000000 in
set_option maxRecDepth 100000 in
theorem tollref03_Swap.calls (k : Nat) (pc : Int) (pb : ByteArray) (a1 : ByteArray) (a2 : ByteArray) (r1 : ByteArray) (r2 : Int) (w : World) (h : tollref03_Swap.f k pc pb a1 a2 = some (r1, r2)) :
  Calls Tryz.prog 67 #[.agg #[.int .i64 pc, .string pb], .string a1, .string a2] w fun e w' => e = .returned (.tuple #[.string r1, .int .i64 r2]) ∧ Below w.heap.size w w' := by
 have hu30 := Tryz.underlying30;have HB := am_ (Below.refl w.heap.size w);have H : (if pc = 2 then ((tollref03_Holds.f k pc pb a2).bind fun pk => (if pk = true then ((tollref03_Above.f k a1).bind fun pi => (tollref03_Swap.j0 k a1 a2 (!pi) pc pb)) else (tollref03_Swap.j0 k a1 a2 true pc pb))) else (tollref03_Swap.j0 k a1 a2 true pc pb)) = some (r1, r2) := h;clear h;have HC4 := Aside0.mk H;clear H;go_enter Tryz.func67, Tryz.ntmps67;go_upto_region 1 with (first | ((with_reducible refine gate_dst (N := 3) rfl ?_); refine box_event ?hg (N := 3) ?hd (cs := #[.int .i64 pc, .string pb]) (t := 30) ?hr ?_; (case hd => rfl); (case hg => rfl); (case hr => first | (go_simp; done) | (go_simp; rfl)); intro pl hg w5 hbox hb; have pa := am_ (hbox); have pG := sz_ HB hg; have pH := sz_ HB hg; replace HB := bs_ HB hb; clear hb hbox hg))
 (try simp only [Act.put, List.setIfInBounds_toArray, List.set_cons_zero, List.set_cons_succ]);go_cut [22] (fun pt wc => ∃ (kq : Nat) (pj : Bool), pt = .bool pj ∧ Aside0 (tollref03_Swap.j0 kq a1 a2 pj pc pb = some (r1, r2)) ∧ Aside0 (kq ≤ k) ∧ Aside0 (wc.heap[pl]? = some (.cells #[.int .i64 pc, .string pb] 30 (0, 0))) ∧ Aside0 (Below w.heap.size w wc))
 case first =>
  have H := HC4.out;clear HC4;by_cases c6 : pc = 2
  ·rw [if_pos c6] at H
   have pf := eqb_ c6;have pm := neb_ c6;clear c6;(first | rw [pf] | rw [pm] | rw [pu] | (simp only [i64_w, i32_w]; rw [pf]) | skip);obtain ⟨pk, A7, H⟩ := bnd_ H;by_cases c8 : pk = true
   ·subst c8
    replace H := ift_ H;obtain ⟨pi, A9, H⟩ := bnd_ H;have H' := Aside0.mk H;clear H;obtain ⟨pI, pJ, pK, pL⟩ := blk2 pa.out;go_wp2_with (first | (go_at_call 41; (with_reducible refine (tollref03_Holds.calls k pc pb a2 true _ A7.out).mono ?_); rintro e w11 ⟨rfl, hb⟩; replace pa := bb_ pa hb; replace HB := bs_ HB hb; (try clear hb)) | (go_at_call 58; (with_reducible refine (tollref03_Above.calls k a1 pi _ A9.out).mono ?_); rintro e w' ⟨rfl, ⟨nd, rfl⟩⟩));go_meet
    case rel => exact ⟨_, (!pi), sd_, H', ⟨le_⟩, ⟨blk_ pa.out⟩, ⟨bel_ HB.out⟩⟩
   ·replace c8 := Bool.eq_false_iff.mpr c8
    subst c8;replace H := iff_ H;have H' := Aside0.mk H;clear H;obtain ⟨pM, pN, pO, pP⟩ := blk2 pa.out;go_wp2_with (first | (go_at_call 41; (with_reducible refine (tollref03_Holds.calls k pc pb a2 false _ A7.out).mono ?_); rintro e w13 ⟨rfl, hb⟩; replace pa := bb_ pa hb; replace HB := bs_ HB hb; (try clear hb)));go_meet
    case rel => exact ⟨_, (true), sd_, H', ⟨le_⟩, ⟨blk_ pa.out⟩, ⟨bel_ HB.out⟩⟩
  ·rw [if_neg c6] at H
   have pf := eqf_ c6;have pm := nef_ c6;(first | rw [pf] | rw [pm] | rw [pu] | (simp only [i64_w, i32_w]; rw [pf]) | skip);have H' := Aside0.mk H;clear H;obtain ⟨pQ, pR, pS, pT⟩ := blk2 pa.out;go_wp2;go_meet
   case rel => exact ⟨_, (true), sd_, H', ⟨le_⟩, ⟨blk_ pa.out⟩, ⟨bel_ HB.out⟩⟩
 case rest =>
  clear HC4;obtain ⟨kq, pj, rfl, HA, HJ3, pa, HB⟩ := hcut;cases kq with
  | zero => exact absurd HA.out (by simp [tollref03_Swap.j0])
  | succ kj3 =>
   have H := HA.out;clear HA;simp only [tollref03_Swap.j0] at H;by_cases c15 : pj = true
   ·subst c15
    replace H := ift_ H;simp only [Option.some.injEq, Prod.mk.injEq] at H;obtain ⟨rfl, rfl⟩ := H;go_wp2;go_ret2;exact ⟨fi_, bel_ HB.out⟩
   ·replace c15 := Bool.eq_false_iff.mpr c15
    subst c15;replace H := iff_ H;have HC16 := Aside0.mk H;clear H;obtain ⟨pp, pq, pr, ps⟩ := blk2 pa.out;go_upto_if 26 with (fail)
    go_cut [8] (fun v8 wc => ∃ (kq : Nat) (pd : ByteArray), v8 = .string pd ∧ Aside0 (tollref03_Swap.j1 kq a1 pd = some (r1, r2)) ∧ Aside0 (kq ≤ kj3) ∧ Aside0 (wc.heap[pl]? = some (.cells #[.int .i64 pc, .string pb] 30 (0, 0))) ∧ Aside0 (Below w.heap.size w wc))
    case first =>
     have H := HC16.out;clear HC16;by_cases c18 : (pb.size : Int) > 1
     ·rw [if_pos c18] at H
      have pg := decide_eq_true c18;have pn : decide (1 < pb.size) = true := decide_eq_true (by omega);clear c18;(first | rw [pg] | rw [pn] | rw [pv] | (simp only [i64_w, i32_w]; rw [pg]) | skip);by_cases c19 : 0 ≤ (pb.size : Int)
      ·rw [if_pos c19] at H
       have pU := eq_true c19;have pV := decide_eq_true c19;clear c19;by_cases c20 : (pb.size : Int) ≤ (a2.size : Int)
       ·rw [if_pos c20] at H
        have pW := eq_true c20;have pX := decide_eq_true c20;clear c20;have H' := Aside0.mk H;clear H;obtain ⟨pY, pZ, p0, p1⟩ := blk2 pa.out;go_wp2;go_meet
        case rel => exact ⟨_, (a2.extract pb.size a2.size), sd_, H', ⟨le1_ HJ3.out⟩, ⟨blk_ pa.out⟩, ⟨bel_ HB.out⟩⟩
       ·rw [if_neg c20] at H
        cases H
      ·rw [if_neg c19] at H
       cases H
     ·rw [if_neg c18] at H
      have pg := decide_eq_false c18;have pn : decide (1 < pb.size) = false := decide_eq_false (by omega);clear c18;(first | rw [pg] | rw [pn] | rw [pv] | (simp only [i64_w, i32_w]; rw [pg]) | skip);by_cases c22 : (a2.size : Int) > 1
      ·rw [if_pos c22] at H
       have pw := decide_eq_true c22;have px : decide (1 < a2.size) = true := decide_eq_true (by omega);clear c22;have H' := Aside0.mk H;clear H;go_wp2;go_meet
       case rel => exact ⟨_, (a2), sd_, H', ⟨le1_ HJ3.out⟩, ⟨blk_ pa.out⟩, ⟨bel_ HB.out⟩⟩
      ·rw [if_neg c22] at H
       have pw := decide_eq_false c22;have px : decide (1 < a2.size) = false := decide_eq_false (by omega);clear c22;have H' := Aside0.mk H;clear H;go_wp2;go_meet
       case rel => exact ⟨_, ((⟨#[]⟩ : ByteArray)), sd_, H', ⟨le1_ HJ3.out⟩, ⟨blk_ pa.out⟩, ⟨bel_ HB.out⟩⟩
    case rest =>
     clear HC16;try clear c15 pp pq pr ps
     obtain ⟨kq, pd, rfl, HA, HJ15, pa, HB⟩ := hcut;cases kq with
     | zero => exact absurd HA.out (by simp [tollref03_Swap.j1])
     | succ kj15 =>
      have H := HA.out;clear HA;simp only [tollref03_Swap.j1] at H;have HC23 := Aside0.mk H;clear H;go_upto_if 38 with (fail)
      go_cut [8] (fun v8 wc => ∃ (kq : Nat) (pe : ByteArray), v8 = .string pe ∧ Aside0 (tollref03_Swap.j2 kq a1 pe = some (r1, r2)) ∧ Aside0 (kq ≤ kj15) ∧ Aside0 (wc.heap[pl]? = some (.cells #[.int .i64 pc, .string pb] 30 (0, 0))) ∧ Aside0 (Below w.heap.size w wc))
      case first =>
       have H := HC23.out;clear HC23;by_cases c24 : (a1.size : Int) > 1
       ·rw [if_pos c24] at H
        have ph := decide_eq_true c24;have po : decide (1 < a1.size) = true := decide_eq_true (by omega);clear c24;(first | rw [ph] | rw [po] | rw [pz] | (simp only [i64_w, i32_w]; rw [ph]) | skip);by_cases c25 : a1.size + pd.size ≤ 9223372036854775807
        ·rw [if_pos c25] at H
         have p2 := eq_true c25;have p3 := decide_eq_true c25;try have p4 : (9223372036854775807 < a1.size + pd.size) = False := eq_false (Nat.not_lt.2 c25)
         have H' := Aside0.mk H;clear H;go_wp2;go_meet
         case rel => exact ⟨_, (a1 ++ pd), sd_, H', ⟨le2_ HJ3.out HJ15.out⟩, ⟨blk_ pa.out⟩, ⟨bel_ HB.out⟩⟩
        ·rw [if_neg c25] at H
         cases H
       ·rw [if_neg c24] at H
        have ph := decide_eq_false c24;have po : decide (1 < a1.size) = false := decide_eq_false (by omega);clear c24;(first | rw [ph] | rw [po] | rw [pz] | (simp only [i64_w, i32_w]; rw [ph]) | skip);have H' := Aside0.mk H;clear H;go_wp2;go_meet
        case rel => exact ⟨_, (pd), sd_, H', ⟨le2_ HJ3.out HJ15.out⟩, ⟨blk_ pa.out⟩, ⟨bel_ HB.out⟩⟩
      case rest =>
       clear HC23;try clear c15 pp pq pr ps
       obtain ⟨kq, pe, rfl, HA, HJ22, pa, HB⟩ := hcut;cases kq with
       | zero => exact absurd HA.out (by simp [tollref03_Swap.j2])
       | succ kj22 =>
        have H := HA.out;clear HA;simp only [tollref03_Swap.j2] at H;by_cases c26 : pe.toList = ([] : List UInt8)
        ·rw [if_pos c26] at H
         have pA := eqb_ c26;have pB := neb_ c26;clear c26;by_cases c27 : (a1.size : Int) > 60
         ·rw [if_pos c27] at H
          have pC := decide_eq_true c27;have pD : decide (60 < a1.size) = true := decide_eq_true (by omega);clear c27;simp only [Option.some.injEq, Prod.mk.injEq] at H;obtain ⟨rfl, rfl⟩ := H;go_wp2;go_ret2;exact ⟨fi_, bel_ HB.out⟩
         ·rw [if_neg c27] at H
          have pC := decide_eq_false c27;have pD : decide (60 < a1.size) = false := decide_eq_false (by omega);clear c27;simp only [Option.some.injEq, Prod.mk.injEq] at H;obtain ⟨rfl, rfl⟩ := H;go_wp2;go_ret2;exact ⟨fi_, bel_ HB.out⟩
        ·rw [if_neg c26] at H
         have pA := eqf_ c26;have pB := nef_ c26;by_cases c28 : (pe.size : Int) > 60
         ·rw [if_pos c28] at H
          have pE := decide_eq_true c28;have pF : decide (60 < pe.size) = true := decide_eq_true (by omega);clear c28;simp only [Option.some.injEq, Prod.mk.injEq] at H;obtain ⟨rfl, rfl⟩ := H;go_wp2;go_ret2;exact ⟨fi_, bel_ HB.out⟩
         ·rw [if_neg c28] at H
          have pE := decide_eq_false c28;have pF : decide (60 < pe.size) = false := decide_eq_false (by omega);clear c28;simp only [Option.some.injEq, Prod.mk.injEq] at H;obtain ⟨rfl, rfl⟩ := H;go_wp2;go_ret2;exact ⟨fi_, bel_ HB.out⟩

/-! ### tollref07_becomes: function 44 -/
def tollref07_becomes.f (k : Nat) (a0_0 : Int) (a0_1 : ByteArray) (a0_2 : ByteArray) (a0_3 : ByteArray) (a0_4 : Int) (a0_5 : ByteArray) (a0_6 : Bool) (a0_7 : Int) (a1_0 : Int) (a1_1 : ByteArray) (a2 : ByteArray) : Option (ByteArray × Int) := if a0_5.toList = ([] : List UInt8) then (some (a2, 0)) else (if a0_6 = true then (some (a0_5, 0)) else (if a1_0 = 1 then (some (a0_5, 0)) else ((tollref03_Swap.f k a1_0 a1_1 a0_5 a2).bind fun bt336 => (some (bt336.1, bt336.2)))))
theorem tollref07_becomes.mono : ∀ a0 a1 a2 a3 a4 a5 a6 a7 a8 a9 a10 k, LeO (tollref07_becomes.f k a0 a1 a2 a3 a4 a5 a6 a7 a8 a9 a10) (tollref07_becomes.f (k + 1) a0 a1 a2 a3 a4 a5 a6 a7 a8 a9 a10) := by
 intro a0 a1 a2 a3 a4 a5 a6 a7 a8 a9 a10 k
 unfold tollref07_becomes.f
 repeat' with_reducible first | apply tollref03_Swap.mono | apply LeO.refl | apply LeO.none | apply LeO.ite | refine LeO.bind ?_ fun _ => ?_
set_option maxHeartbeats 8000000 in
set_option maxRecDepth 100000 in
theorem tollref07_becomes.calls (k : Nat) (ph : Int) (pi : ByteArray) (pj : ByteArray) (pk : ByteArray) (pl : Int) (pb : ByteArray) (pn : Bool) (pm : Int) (pc : Int) (pd : ByteArray) (a2 : ByteArray) (r1 : ByteArray) (r2 : Int) (w : World) (h : tollref07_becomes.f k ph pi pj pk pl pb pn pm pc pd a2 = some (r1, r2)) :
  Calls Tryz.prog 44 #[.agg #[.int .i64 ph, .string pi, .string pj, .string pk, .int .i64 pl, .string pb, .bool pn, .int .i64 pm], .agg #[.int .i64 pc, .string pd], .string a2] w fun e w' => e = .returned (.tuple #[.string r1, .int .i64 r2]) ∧ Below w.heap.size w w' := by
 have hu26 := Tryz.underlying26;have hu30 := Tryz.underlying30;have HB := am_ (Below.refl w.heap.size w);have H : (if pb.toList = ([] : List UInt8) then (some (a2, 0)) else (if pn = true then (some (pb, 0)) else (if pc = 1 then (some (pb, 0)) else ((tollref03_Swap.f k pc pd pb a2).bind fun bt336 => (some (bt336.1, bt336.2)))))) = some (r1, r2) := h;clear h;by_cases c4 : pb.toList = ([] : List UInt8)
 ·rw [if_pos c4] at H
  have pw := eqb_ c4;have px := neb_ c4;clear c4;simp only [Option.some.injEq, Prod.mk.injEq] at H;obtain ⟨rfl, rfl⟩ := H;go_enter Tryz.func44, Tryz.ntmps44;go_wp2_with (first | ((with_reducible refine gate_dst (N := 3) rfl ?_); refine box_event ?hg (N := 3) ?hd (cs := #[.int .i64 ph, .string pi, .string pj, .string pk, .int .i64 pl, .string pb, .bool pn, .int .i64 pm]) (t := 26) ?hr ?_; (case hd => rfl); (case hg => rfl); (case hr => first | (go_simp; done) | (go_simp; rfl)); intro po hg w5 hbox hb; have pa := am_ (hbox); have pp := sz_ HB hg; have pq := sz_ HB hg; replace HB := bs_ HB hb; clear hb hbox hg) | ((with_reducible refine gate_dst (N := 4) rfl ?_); refine box_event ?hg (N := 4) ?hd (cs := #[.int .i64 pc, .string pd]) (t := 30) ?hr ?_; (case hd => rfl); (case hg => rfl); (case hr => first | (go_simp; done) | (go_simp; rfl)); intro pr hg w6 hbox hb; have pe := am_ (hbox); have ps := sz_ HB hg; have pt := sz_ HB hg; replace HB := bs_ HB hb; have pf := nl_ pa hg; have pg := nr_ pa hg; replace pa := bb_ pa hb; clear hb hbox hg; have pB := pf.out; have pC := pg.out; obtain ⟨pD, pE, pF, pG, pH, pI, pJ, pK, pL, pM, pN, pO, pP, pQ, pR, pS⟩ := blk8 pa.out));go_ret2;exact ⟨fi_, bel_ HB.out⟩
 ·rw [if_neg c4] at H
  have pw := eqf_ c4;have px := nef_ c4;by_cases c9 : pn = true
  ·subst c9
   replace H := ift_ H;simp only [Option.some.injEq, Prod.mk.injEq] at H;obtain ⟨rfl, rfl⟩ := H;go_enter Tryz.func44, Tryz.ntmps44;go_wp2_with (first | ((with_reducible refine gate_dst (N := 3) rfl ?_); refine box_event ?hg (N := 3) ?hd (cs := #[.int .i64 ph, .string pi, .string pj, .string pk, .int .i64 pl, .string pb, .bool true, .int .i64 pm]) (t := 26) ?hr ?_; (case hd => rfl); (case hg => rfl); (case hr => first | (go_simp; done) | (go_simp; rfl)); intro po hg w10 hbox hb; have pa := am_ (hbox); have pp := sz_ HB hg; have pq := sz_ HB hg; replace HB := bs_ HB hb; clear hb hbox hg) | ((with_reducible refine gate_dst (N := 4) rfl ?_); refine box_event ?hg (N := 4) ?hd (cs := #[.int .i64 pc, .string pd]) (t := 30) ?hr ?_; (case hd => rfl); (case hg => rfl); (case hr => first | (go_simp; done) | (go_simp; rfl)); intro pr hg w11 hbox hb; have pe := am_ (hbox); have ps := sz_ HB hg; have pt := sz_ HB hg; replace HB := bs_ HB hb; have pf := nl_ pa hg; have pg := nr_ pa hg; replace pa := bb_ pa hb; clear hb hbox hg; have pT := pf.out; have pU := pg.out; obtain ⟨pV, pW, pX, pY, pZ, p0, p1, p2, p3, p4, p5, p6, p7, p8, p9, qa⟩ := blk8 pa.out));go_ret2;exact ⟨fi_, bel_ HB.out⟩
  ·replace c9 := Bool.eq_false_iff.mpr c9
   subst c9;replace H := iff_ H;by_cases c14 : pc = 1
   ·rw [if_pos c14] at H
    have pz := eqb_ c14;have pA := neb_ c14;clear c14;simp only [Option.some.injEq, Prod.mk.injEq] at H;obtain ⟨rfl, rfl⟩ := H;go_enter Tryz.func44, Tryz.ntmps44;go_wp2_with (first | ((with_reducible refine gate_dst (N := 3) rfl ?_); refine box_event ?hg (N := 3) ?hd (cs := #[.int .i64 ph, .string pi, .string pj, .string pk, .int .i64 pl, .string pb, .bool false, .int .i64 pm]) (t := 26) ?hr ?_; (case hd => rfl); (case hg => rfl); (case hr => first | (go_simp; done) | (go_simp; rfl)); intro po hg w15 hbox hb; have pa := am_ (hbox); have pp := sz_ HB hg; have pq := sz_ HB hg; replace HB := bs_ HB hb; clear hb hbox hg) | ((with_reducible refine gate_dst (N := 4) rfl ?_); refine box_event ?hg (N := 4) ?hd (cs := #[.int .i64 pc, .string pd]) (t := 30) ?hr ?_; (case hd => rfl); (case hg => rfl); (case hr => first | (go_simp; done) | (go_simp; rfl)); intro pr hg w16 hbox hb; have pe := am_ (hbox); have ps := sz_ HB hg; have pt := sz_ HB hg; replace HB := bs_ HB hb; have pf := nl_ pa hg; have pg := nr_ pa hg; replace pa := bb_ pa hb; clear hb hbox hg; have qb := pf.out; have qc := pg.out; obtain ⟨qd, qe, qf, qg, qh, qi, qj, qk, ql, qm, qn, qo, qp, qq, qr, qs⟩ := blk8 pa.out; obtain ⟨qt, qu, qv, qw⟩ := blk2 pe.out));go_ret2;exact ⟨fi_, bel_ HB.out⟩
   ·rw [if_neg c14] at H
    have pz := eqf_ c14;have pA := nef_ c14;obtain ⟨⟨pu, pv⟩, A20, H⟩ := bnd_ H;replace H : (some (pu, pv)) = some (r1, r2) := H;simp only [Option.some.injEq, Prod.mk.injEq] at H;obtain ⟨rfl, rfl⟩ := H;go_enter Tryz.func44, Tryz.ntmps44;go_wp2_with (first | ((with_reducible refine gate_dst (N := 3) rfl ?_); refine box_event ?hg (N := 3) ?hd (cs := #[.int .i64 ph, .string pi, .string pj, .string pk, .int .i64 pl, .string pb, .bool false, .int .i64 pm]) (t := 26) ?hr ?_; (case hd => rfl); (case hg => rfl); (case hr => first | (go_simp; done) | (go_simp; rfl)); intro po hg w21 hbox hb; have pa := am_ (hbox); have pp := sz_ HB hg; have pq := sz_ HB hg; replace HB := bs_ HB hb; clear hb hbox hg) | ((with_reducible refine gate_dst (N := 4) rfl ?_); refine box_event ?hg (N := 4) ?hd (cs := #[.int .i64 pc, .string pd]) (t := 30) ?hr ?_; (case hd => rfl); (case hg => rfl); (case hr => first | (go_simp; done) | (go_simp; rfl)); intro pr hg w22 hbox hb; have pe := am_ (hbox); have ps := sz_ HB hg; have pt := sz_ HB hg; replace HB := bs_ HB hb; have pf := nl_ pa hg; have pg := nr_ pa hg; replace pa := bb_ pa hb; clear hb hbox hg; have qx := pf.out; have qy := pg.out; obtain ⟨qz, qA, qB, qC, qD, qE, qF, qG, qH, qI, qJ, qK, qL, qM, qN, qO⟩ := blk8 pa.out; obtain ⟨qP, qQ, qR, qS⟩ := blk2 pe.out) | ((with_reducible refine gate_callee (f := 67) rfl ?_); refine goesL_ (some 25) rfl rfl Tryz.func67 kr_ rfl #[.agg #[.int .i64 pc, .string pd], .string pb, .string a2] rfl rl_ ?_; (with_reducible refine (tollref03_Swap.calls k pc pd pb a2 pu pv _ A20.out).mono ?_); rintro e w26 ⟨rfl, hb⟩; refine ⟨_, rfl, ?_⟩; replace pa := bb_ pa hb; replace pe := bb_ pe hb; replace HB := bs_ HB hb; (try clear hb)));go_ret2;exact ⟨fi_, bel_ HB.out⟩

end Go.Proofs.YtfdopmjgiakcdaaGreatDoor.P
