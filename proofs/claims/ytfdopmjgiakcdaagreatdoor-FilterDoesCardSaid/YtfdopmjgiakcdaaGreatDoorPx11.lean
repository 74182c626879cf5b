-- written by wip/tool/hprint.py of this repo: the kit's print, with contracts by hand joined; Lean checks it.
import Derived.Test.YtfdopmjgiakcdaaGreatDoorPx0
namespace Go.Proofs.YtfdopmjgiakcdaaGreatDoor.P
open Go.RowKit Go.Proofs.YtfdopmjgiakcdaaGreatDoorW.PrintWords Go.Proofs.YtfdopmjgiakcdaaGreatDoorW.PrintLast Go.Proofs.YtfdopmjgiakcdaaGreatDoorW.PrintMore
attribute [local go_sem] max2_int min2_int max_two min_two max_three min_three max_four min_four   -- for this text's walks alone
set_option linter.unusedVariables false
set_option linter.unusedSimpArgs false

/-! ### tollref01_Fold: function 50 -/
def tollref01_Fold.l0 : Nat → ByteArray → ByteArray → Int → Option (ByteArray)
 | 0, _, _, _ => none
 | k + 1, x0, x3, x4 => if x4 < (x0.size : Int) then (if 0 ≤ x4 then (if 65 ≤ (bt x0 x4) then (if (bt x0 x4) ≤ 90 then ((some (([((bt x0 x4) + 32) % 256] : List Int) : List Int)).bind fun y167 => (if x3.size + (strOfNums y167).size ≤ 9223372036854775807 then (tollref01_Fold.l0 k x0 (x3 ++ (strOfNums y167)) (wrap64 (x4 + 1))) else (none))) else ((some (([bt x0 x4] : List Int) : List Int)).bind fun y170 => (if x3.size + (strOfNums y170).size ≤ 9223372036854775807 then (tollref01_Fold.l0 k x0 (x3 ++ (strOfNums y170)) (wrap64 (x4 + 1))) else (none)))) else ((some (([bt x0 x4] : List Int) : List Int)).bind fun y173 => (if x3.size + (strOfNums y173).size ≤ 9223372036854775807 then (tollref01_Fold.l0 k x0 (x3 ++ (strOfNums y173)) (wrap64 (x4 + 1))) else (none)))) else (none)) else (some x3)
def tollref01_Fold.f (k : Nat) (a0 : ByteArray) : Option (ByteArray) := tollref01_Fold.l0 k a0 (⟨#[]⟩ : ByteArray) 0
theorem tollref01_Fold.mono_l : ∀ k, (∀ y0 y1 y2, LeO (tollref01_Fold.l0 k y0 y1 y2) (tollref01_Fold.l0 (k + 1) y0 y1 y2))
 | 0 => fun _ _ _ r h => by simp [tollref01_Fold.l0] at h
 | k + 1 => by
  have ih0 := tollref01_Fold.mono_l k
  ·intro y0 y1 y2
   unfold tollref01_Fold.l0
   repeat' with_reducible first | apply ih0 | apply LeO.refl | apply LeO.none | apply LeO.ite | refine LeO.bind ?_ fun _ => ?_
theorem tollref01_Fold.mono : ∀ a0 k, LeO (tollref01_Fold.f k a0) (tollref01_Fold.f (k + 1) a0) := by
 intro a0 k
 have ih0 := tollref01_Fold.mono_l k
 unfold tollref01_Fold.f
 repeat' with_reducible first | apply ih0 | apply LeO.refl | apply LeO.none | apply LeO.ite | refine LeO.bind ?_ fun _ => ?_
set_option maxHeartbeats 8000000 in
set_option maxRecDepth 100000 in
theorem tollref01_Fold.calls (k : Nat) (a0 : ByteArray) (r : ByteArray) (w : World) (h : tollref01_Fold.f k a0 = some r) :
  Calls Tryz.prog 50 #[.string a0] w fun e w' => e = .returned (.string r) ∧ Below w.heap.size w w' := by
 have HB := am_ (Below.refl w.heap.size w);have H : (tollref01_Fold.l0 k a0 (⟨#[]⟩ : ByteArray) 0) = some r := h;clear h;have H' := Aside0.mk H;clear H;go_enter Tryz.func50, Tryz.ntmps50;go_wp2;go_loopg [3, 4] k (fun kq v3 v4 w' => ∃ (pb : ByteArray) (pa : Int), v3 = .string pb ∧ v4 = .int .i64 pa ∧ Aside0 (tollref01_Fold.l0 kq a0 pb pa = some r) ∧ Aside0 (kq ≤ k) ∧ Aside0 (Below w.heap.size w w'))
 case atStart => exact ⟨((⟨#[]⟩ : ByteArray)), (0), sd_, sd_, H', ⟨Nat.le_refl _⟩, ⟨bel_ HB.out⟩⟩
 case round =>
  clear H';obtain ⟨pb, pa, rfl, rfl, HA, HK1, HB⟩ := hrel;cases gk with
  | zero => exact absurd HA.out (by simp [tollref01_Fold.l0])
  | succ k1 =>
   have H := HA.out;clear HA;simp only [tollref01_Fold.l0] at H;by_cases c2 : pa < (a0.size : Int)
   ·rw [if_pos c2] at H
    have pi := decide_eq_true c2;clear c2;by_cases c3 : 0 ≤ pa
    ·rw [if_pos c3] at H
     have po := decide_eq_true c3;clear c3;by_cases c5 : 65 ≤ (bt a0 pa)
     ·rw [if_pos c5] at H
      have pj := decide_eq_true c5;clear c5;by_cases c6 : (bt a0 pa) ≤ 90
      ·rw [if_pos c6] at H
       have pk := decide_eq_true c6;clear c6;obtain ⟨pc, hy167⟩ : ∃ y_ : List Int, y_ = (([((bt a0 pa) + 32) % 256] : List Int)) := ⟨_, rfl⟩;replace H : (if pb.size + (strOfNums pc).size ≤ 9223372036854775807 then (tollref01_Fold.l0 k1 a0 (pb ++ (strOfNums pc)) (wrap64 (pa + 1))) else (none)) = some r := by first | (rw [hy167]; with_reducible exact H) | (have H2_ := (Option.bind_some _ _).symm.trans H; rw [hy167]; with_reducible exact H2_) | (have H2_ := (Option.bind_some _ _).symm.trans H; with_reducible exact H2_) | with_reducible exact H | (rw [hy167]; exact H) | exact H
       have pf := Aside0.mk hy167;clear hy167;by_cases c7 : pb.size + (strOfNums pc).size ≤ 9223372036854775807
       ·rw [if_pos c7] at H
        have pp := eq_true c7;have pq := decide_eq_true c7;try have pr : (9223372036854775807 < pb.size + (strOfNums pc).size) = False := eq_false (Nat.not_lt.2 c7)
        have H' := Aside0.mk H;clear H;have p4 : 0 ≤ (pa : Int) := of_decide_eq_true as_;have q4 : pa < (a0.size : Int) := of_decide_eq_true as_;have hx4 := bt_at a0 pa;replace p4 := eq_true p4;replace q4 := eq_true q4;go_wp2_with (first | ((with_reducible refine gate_dst (N := 25) rfl ?_); refine Kd.R_lit (Kd.int .u8) _ 5 ?hg (N := 25) ?hd (xs := ([((bt a0 pa) + 32) % 256] : List Int)) (inner := [.int .u8 (((bt a0 pa) + 32) % 256)]) (ok := fun _ => True) (okp := fun _ => True) ?hr ?hp (fun _ hk => hk) trivial (Below.refl _ _) (Nat.le_refl _) (by simp) ?_; (case hd => rfl); (case hg => rfl); (case hr => first | (go_simp; done) | (go_simp; rfl)); (case hp => exact (Reps.one (show Kd.M (Kd.int .u8) _ _ _ (((bt a0 pa) + 32) % 256) [.int .u8 (((bt a0 pa) + 32) % 256)] from rfl) (Reps.none _ _))); intro ps w8 ho9 hb hg_ hnew_; clear hg_ hnew_; (first | rw [← pf.out] at ho9 | (simp only [Int.reduceToNat] at ho9; rw [← pf.out] at ho9)); have pl := am_ (Kd.R_lower ho9 (below_size (bel_ HB.out))); replace HB := bs_ HB hb; clear hb ho9; have hcv10 := own_string (P := Tryz.prog) Tryz.underlying87 Tryz.underlying5 Tryz.underlying9 (Kd.own_of_R pl.out)));go_roundg k1
        case measure => have := HK1.out; omega
        case rel => exact ⟨(pb ++ (strOfNums pc)), (wrap64 (pa + 1)), sd_, sd_, H', ⟨le1_ HK1.out⟩, ⟨bel_ HB.out⟩⟩
       ·rw [if_neg c7] at H
        cases H
      ·rw [if_neg c6] at H
       have pk := decide_eq_false c6;clear c6;obtain ⟨pd, hy170⟩ : ∃ y_ : List Int, y_ = (([bt a0 pa] : List Int)) := ⟨_, rfl⟩;replace H : (if pb.size + (strOfNums pd).size ≤ 9223372036854775807 then (tollref01_Fold.l0 k1 a0 (pb ++ (strOfNums pd)) (wrap64 (pa + 1))) else (none)) = some r := by first | (rw [hy170]; with_reducible exact H) | (have H2_ := (Option.bind_some _ _).symm.trans H; rw [hy170]; with_reducible exact H2_) | (have H2_ := (Option.bind_some _ _).symm.trans H; with_reducible exact H2_) | with_reducible exact H | (rw [hy170]; exact H) | exact H
       have pg := Aside0.mk hy170;clear hy170;by_cases c11 : pb.size + (strOfNums pd).size ≤ 9223372036854775807
       ·rw [if_pos c11] at H
        have pt := eq_true c11;have pu := decide_eq_true c11;try have pv : (9223372036854775807 < pb.size + (strOfNums pd).size) = False := eq_false (Nat.not_lt.2 c11)
        have H' := Aside0.mk H;clear H;have p4 : 0 ≤ (pa : Int) := of_decide_eq_true as_;have q4 : pa < (a0.size : Int) := of_decide_eq_true as_;have hx4 := bt_at a0 pa;replace p4 := eq_true p4;replace q4 := eq_true q4;go_wp2_with (first | ((with_reducible refine gate_dst (N := 25) rfl ?_); refine Kd.R_lit (Kd.int .u8) _ 5 ?hg (N := 25) ?hd (xs := ([bt a0 pa] : List Int)) (inner := [.int .u8 (bt a0 pa)]) (ok := fun _ => True) (okp := fun _ => True) ?hr ?hp (fun _ hk => hk) trivial (Below.refl _ _) (Nat.le_refl _) (by simp) ?_; (case hd => rfl); (case hg => rfl); (case hr => first | (go_simp; done) | (go_simp; rfl)); (case hp => exact (Reps.one (show Kd.M (Kd.int .u8) _ _ _ (bt a0 pa) [.int .u8 (bt a0 pa)] from rfl) (Reps.none _ _))); intro pw w12 ho13 hb hg_ hnew_; clear hg_ hnew_; (first | rw [← pg.out] at ho13 | (simp only [Int.reduceToNat] at ho13; rw [← pg.out] at ho13)); have pm := am_ (Kd.R_lower ho13 (below_size (bel_ HB.out))); replace HB := bs_ HB hb; clear hb ho13; have hcv14 := own_string (P := Tryz.prog) Tryz.underlying87 Tryz.underlying5 Tryz.underlying9 (Kd.own_of_R pm.out)));go_roundg k1
        case measure => have := HK1.out; omega
        case rel => exact ⟨(pb ++ (strOfNums pd)), (wrap64 (pa + 1)), sd_, sd_, H', ⟨le1_ HK1.out⟩, ⟨bel_ HB.out⟩⟩
       ·rw [if_neg c11] at H
        cases H
     ·rw [if_neg c5] at H
      have pj := decide_eq_false c5;clear c5;obtain ⟨pe, hy173⟩ : ∃ y_ : List Int, y_ = (([bt a0 pa] : List Int)) := ⟨_, rfl⟩;replace H : (if pb.size + (strOfNums pe).size ≤ 9223372036854775807 then (tollref01_Fold.l0 k1 a0 (pb ++ (strOfNums pe)) (wrap64 (pa + 1))) else (none)) = some r := by first | (rw [hy173]; with_reducible exact H) | (have H2_ := (Option.bind_some _ _).symm.trans H; rw [hy173]; with_reducible exact H2_) | (have H2_ := (Option.bind_some _ _).symm.trans H; with_reducible exact H2_) | with_reducible exact H | (rw [hy173]; exact H) | exact H
      have ph := Aside0.mk hy173;clear hy173;by_cases c15 : pb.size + (strOfNums pe).size ≤ 9223372036854775807
      ·rw [if_pos c15] at H
       have px := eq_true c15;have pz := decide_eq_true c15;try have pA : (9223372036854775807 < pb.size + (strOfNums pe).size) = False := eq_false (Nat.not_lt.2 c15)
       have H' := Aside0.mk H;clear H;have p4 : 0 ≤ (pa : Int) := of_decide_eq_true as_;have q4 : pa < (a0.size : Int) := of_decide_eq_true as_;have hx4 := bt_at a0 pa;replace p4 := eq_true p4;replace q4 := eq_true q4;go_wp2_with (first | ((with_reducible refine gate_dst (N := 25) rfl ?_); refine Kd.R_lit (Kd.int .u8) _ 5 ?hg (N := 25) ?hd (xs := ([bt a0 pa] : List Int)) (inner := [.int .u8 (bt a0 pa)]) (ok := fun _ => True) (okp := fun _ => True) ?hr ?hp (fun _ hk => hk) trivial (Below.refl _ _) (Nat.le_refl _) (by simp) ?_; (case hd => rfl); (case hg => rfl); (case hr => first | (go_simp; done) | (go_simp; rfl)); (case hp => exact (Reps.one (show Kd.M (Kd.int .u8) _ _ _ (bt a0 pa) [.int .u8 (bt a0 pa)] from rfl) (Reps.none _ _))); intro pB w16 ho17 hb hg_ hnew_; clear hg_ hnew_; (first | rw [← ph.out] at ho17 | (simp only [Int.reduceToNat] at ho17; rw [← ph.out] at ho17)); have pn := am_ (Kd.R_lower ho17 (below_size (bel_ HB.out))); replace HB := bs_ HB hb; clear hb ho17; have hcv18 := own_string (P := Tryz.prog) Tryz.underlying87 Tryz.underlying5 Tryz.underlying9 (Kd.own_of_R pn.out)));go_roundg k1
       case measure => have := HK1.out; omega
       case rel => exact ⟨(pb ++ (strOfNums pe)), (wrap64 (pa + 1)), sd_, sd_, H', ⟨le1_ HK1.out⟩, ⟨bel_ HB.out⟩⟩
      ·rw [if_neg c15] at H
       cases H
    ·rw [if_neg c3] at H
     cases H
   ·rw [if_neg c2] at H
    have pi := decide_eq_false c2;clear c2;obtain rfl := Option.some.inj H;go_wp2;go_ret;exact ⟨fi_, bel_ HB.out⟩

/-! ### tollref05_Same: function 23 -/
def tollref05_Same.f (k : Nat) (a0 : ByteArray) (a1 : ByteArray) : Option (Bool) := (tollref01_Fold.f k a0).bind fun t176 => ((tollref01_Fold.f k a1).bind fun t177 => (some (t176.toList == t177.toList)))
theorem tollref05_Same.mono : ∀ a0 a1 k, LeO (tollref05_Same.f k a0 a1) (tollref05_Same.f (k + 1) a0 a1) := by
 intro a0 a1 k
 unfold tollref05_Same.f
 repeat' with_reducible first | apply tollref01_Fold.mono | apply LeO.refl | apply LeO.none | apply LeO.ite | refine LeO.bind ?_ fun _ => ?_
set_option maxHeartbeats 8000000 in
set_option maxRecDepth 100000 in
theorem tollref05_Same.calls (k : Nat) (a0 : ByteArray) (a1 : ByteArray) (r : Bool) (w : World) (h : tollref05_Same.f k a0 a1 = some r) :
  Calls Tryz.prog 23 #[.string a0, .string a1] w fun e w' => e = .returned (.bool r) ∧ Below w.heap.size w w' := by
 have HB := am_ (Below.refl w.heap.size w);have H : ((tollref01_Fold.f k a0).bind fun pa => ((tollref01_Fold.f k a1).bind fun pb => (some (pa.toList == pb.toList)))) = some r := h;clear h;obtain ⟨pa, A3, H⟩ := bnd_ H;obtain ⟨pb, A4, H⟩ := bnd_ H;obtain rfl := Option.some.inj H;go_enter Tryz.func23, Tryz.ntmps23;go_wp2_with (first | ((with_reducible refine gate_callee (f := 50) rfl ?_); refine goesL_ (some 6) rfl rfl Tryz.func50 kr_ rfl #[.string a0] rfl rl_ ?_; (with_reducible refine (tollref01_Fold.calls k a0 pa _ A3.out).mono ?_); rintro e w5 ⟨rfl, hb⟩; refine ⟨_, rfl, ?_⟩; replace HB := bs_ HB hb; (try clear hb)) | ((with_reducible refine gate_callee (f := 50) rfl ?_); refine goesL_ (some 8) rfl rfl Tryz.func50 kr_ rfl #[.string a1] rfl rl_ ?_; (with_reducible refine (tollref01_Fold.calls k a1 pb _ A4.out).mono ?_); rintro e w6 ⟨rfl, hb⟩; refine ⟨_, rfl, ?_⟩; replace HB := bs_ HB hb; (try clear hb)));go_ret;exact ⟨fi_, bel_ HB.out⟩

end Go.Proofs.YtfdopmjgiakcdaaGreatDoor.P
