-- written by wip/tool/hprint.py of this repo: the kit's print, with contracts by hand joined; Lean checks it.
import Derived.Test.YtfdopmjgiakcdaaGreatDoorPx0
namespace Go.Proofs.YtfdopmjgiakcdaaGreatDoor.P
open Go.RowKit Go.Proofs.YtfdopmjgiakcdaaGreatDoorW.PrintWords Go.Proofs.YtfdopmjgiakcdaaGreatDoorW.PrintLast Go.Proofs.YtfdopmjgiakcdaaGreatDoorW.PrintMore
attribute [local go_sem] max2_int min2_int max_two min_two max_three min_three max_four min_four   -- for this text's walks alone
set_option linter.unusedVariables false
set_option linter.unusedSimpArgs false

/-! ### tollref07_Digits: function 49 -/
def tollref07_Digits.l0 : Nat → Int → ByteArray → Option (ByteArray)
 | 0, _, _ => none
 | k + 1, x0, x3 => if x0 > 0 then ((some (([(wrap64 (48 + (Int.tmod x0 10))) % 256] : List Int) : List Int)).bind fun y367 => (if (strOfNums y367).size + x3.size ≤ 9223372036854775807 then (tollref07_Digits.l0 k (wrap64 (Int.tdiv x0 10)) ((strOfNums y367) ++ x3)) else (none))) else (some x3)
def tollref07_Digits.f (k : Nat) (a0 : Int) : Option (ByteArray) := tollref07_Digits.l0 k a0 (⟨#[]⟩ : ByteArray)
theorem tollref07_Digits.mono_l : ∀ k, (∀ y0 y1, LeO (tollref07_Digits.l0 k y0 y1) (tollref07_Digits.l0 (k + 1) y0 y1))
 | 0 => fun _ _ r h => by simp [tollref07_Digits.l0] at h
 | k + 1 => by
  have ih0 := tollref07_Digits.mono_l k
  ·intro y0 y1
   unfold tollref07_Digits.l0
   repeat' with_reducible first | apply ih0 | apply LeO.refl | apply LeO.none | apply LeO.ite | refine LeO.bind ?_ fun _ => ?_
theorem tollref07_Digits.mono : ∀ a0 k, LeO (tollref07_Digits.f k a0) (tollref07_Digits.f (k + 1) a0) := by
 intro a0 k
 have ih0 := tollref07_Digits.mono_l k
 unfold tollref07_Digits.f
 repeat' with_reducible first | apply ih0 | apply LeO.refl | apply LeO.none | apply LeO.ite | refine LeO.bind ?_ fun _ => ?_
set_option maxHeartbeats 8000000 in
set_option maxRecDepth 100000 in
theorem tollref07_Digits.calls (k : Nat) (a0 : Int) (r : ByteArray) (w : World) (h : tollref07_Digits.f k a0 = some r) :
  Calls Tryz.prog 49 #[.int .i64 a0] w fun e w' => e = .returned (.string r) ∧ Below w.heap.size w w' := by
 have HB := am_ (Below.refl w.heap.size w);have H : (tollref07_Digits.l0 k a0 (⟨#[]⟩ : ByteArray)) = some r := h;clear h;have H' := Aside0.mk H;clear H;go_enter Tryz.func49, Tryz.ntmps49;go_wp2;go_loopg [0, 3] k (fun kq v0 v3 w' => ∃ (pa : Int) (pb : ByteArray), v0 = .int .i64 pa ∧ v3 = .string pb ∧ Aside0 (tollref07_Digits.l0 kq pa pb = some r) ∧ Aside0 (kq ≤ k) ∧ Aside0 (Below w.heap.size w w'))
 case atStart => exact ⟨(a0), ((⟨#[]⟩ : ByteArray)), sd_, sd_, H', ⟨Nat.le_refl _⟩, ⟨bel_ HB.out⟩⟩
 case round =>
  clear H';obtain ⟨pa, pb, rfl, rfl, HA, HK1, HB⟩ := hrel;cases gk with
  | zero => exact absurd HA.out (by simp [tollref07_Digits.l0])
  | succ k1 =>
   have H := HA.out;clear HA;simp only [tollref07_Digits.l0] at H;by_cases c2 : pa > 0
   ·rw [if_pos c2] at H
    have pe := decide_eq_true c2;clear c2;obtain ⟨pc, hy367⟩ : ∃ y_ : List Int, y_ = (([(wrap64 (48 + (Int.tmod pa 10))) % 256] : List Int)) := ⟨_, rfl⟩;replace H : (if (strOfNums pc).size + pb.size ≤ 9223372036854775807 then (tollref07_Digits.l0 k1 (wrap64 (Int.tdiv pa 10)) ((strOfNums pc) ++ pb)) else (none)) = some r := by first | (rw [hy367]; with_reducible exact H) | (have H2_ := (Option.bind_some _ _).symm.trans H; rw [hy367]; with_reducible exact H2_) | (have H2_ := (Option.bind_some _ _).symm.trans H; with_reducible exact H2_) | with_reducible exact H | (rw [hy367]; exact H) | exact H
    have pd := Aside0.mk hy367;clear hy367;by_cases c3 : (strOfNums pc).size + pb.size ≤ 9223372036854775807
    ·rw [if_pos c3] at H
     have pg := eq_true c3;have ph := decide_eq_true c3;try have pi : (9223372036854775807 < (strOfNums pc).size + pb.size) = False := eq_false (Nat.not_lt.2 c3)
     have H' := Aside0.mk H;clear H;go_wp2_with (first | ((with_reducible refine gate_dst (N := 10) rfl ?_); refine Kd.R_lit (Kd.int .u8) _ 5 ?hg (N := 10) ?hd (xs := ([(wrap64 (48 + (Int.tmod pa 10))) % 256] : List Int)) (inner := [.int .u8 ((wrap64 (48 + (Int.tmod pa 10))) % 256)]) (ok := fun _ => True) (okp := fun _ => True) ?hr ?hp (fun _ hk => hk) trivial (Below.refl _ _) (Nat.le_refl _) (by simp) ?_; (case hd => rfl); (case hg => rfl); (case hr => first | (go_simp; done) | (go_simp; rfl)); (case hp => exact (Reps.one (show Kd.M (Kd.int .u8) _ _ _ ((wrap64 (48 + (Int.tmod pa 10))) % 256) [.int .u8 ((wrap64 (48 + (Int.tmod pa 10))) % 256)] from rfl) (Reps.none _ _))); intro pj w4 ho5 hb hg_ hnew_; clear hg_ hnew_; (first | rw [← pd.out] at ho5 | (simp only [Int.reduceToNat] at ho5; rw [← pd.out] at ho5)); have pf := am_ (Kd.R_lower ho5 (below_size (bel_ HB.out))); replace HB := bs_ HB hb; clear hb ho5; have hcv6 := own_string (P := Tryz.prog) Tryz.underlying87 Tryz.underlying5 Tryz.underlying9 (Kd.own_of_R pf.out)));go_roundg k1
     case measure => have := HK1.out; omega
     case rel => exact ⟨(wrap64 (Int.tdiv pa 10)), ((strOfNums pc) ++ pb), sd_, sd_, H', ⟨le1_ HK1.out⟩, ⟨bel_ HB.out⟩⟩
    ·rw [if_neg c3] at H
     cases H
   ·rw [if_neg c2] at H
    have pe := decide_eq_false c2;clear c2;obtain rfl := Option.some.inj H;go_wp2;go_ret;exact ⟨fi_, bel_ HB.out⟩

end Go.Proofs.YtfdopmjgiakcdaaGreatDoor.P
