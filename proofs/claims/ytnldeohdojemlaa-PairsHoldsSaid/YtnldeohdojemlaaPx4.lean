-- written by wip/tool/hprint.py of this repo: the kit's print, with contracts by hand joined; Lean checks it.
import Derived.Test.YtnldeohdojemlaaPx0
import Derived.Test.YtnldeohdojemlaaPx3
namespace Go.Proofs.Ytnldeohdojemlaa.P
open Go.RowKit Go.Proofs.YtnldeohdojemlaaW.PrintWords Go.Proofs.YtnldeohdojemlaaW.PrintLast Go.Proofs.YtnldeohdojemlaaW.PrintMore
attribute [local go_sem] max2_int min2_int max_two min_two max_three min_three max_four min_four   -- for this text's walks alone
set_option linter.unusedVariables false
set_option linter.unusedSimpArgs false

/-! ### tollref01_Fold: function 37 -/
def tollref01_Fold.l0 : Nat → ByteArray → ByteArray → Int → Option (ByteArray)
  | 0, _, _, _ => none
  | k + 1, x0, x3, x4 => if x4 < (x0.size : Int) then (if 0 ≤ x4 then (if 65 ≤ (bt x0 x4) then (if (bt x0 x4) ≤ 90 then ((some (([((bt x0 x4) + 32) % 256] : List Int) : List Int)).bind fun y118 => (if x3.size + (strOfNums y118).size ≤ 9223372036854775807 then (tollref01_Fold.l0 k x0 (x3 ++ (strOfNums y118)) (wrap64 (x4 + 1))) else (none))) else ((some (([bt x0 x4] : List Int) : List Int)).bind fun y121 => (if x3.size + (strOfNums y121).size ≤ 9223372036854775807 then (tollref01_Fold.l0 k x0 (x3 ++ (strOfNums y121)) (wrap64 (x4 + 1))) else (none)))) else ((some (([bt x0 x4] : List Int) : List Int)).bind fun y124 => (if x3.size + (strOfNums y124).size ≤ 9223372036854775807 then (tollref01_Fold.l0 k x0 (x3 ++ (strOfNums y124)) (wrap64 (x4 + 1))) else (none)))) else (none)) else (some x3)
def tollref01_Fold.f (k : Nat) (a0 : ByteArray) : Option (ByteArray) := tollref01_Fold.l0 k a0 (⟨#[]⟩ : ByteArray) 0
theorem tollref01_Fold.mono_l : ∀ k, (∀ y0 y1 y2, LeO (tollref01_Fold.l0 k y0 y1 y2) (tollref01_Fold.l0 (k + 1) y0 y1 y2))
  | 0 => fun _ _ _ r h => by simp [tollref01_Fold.l0] at h
  | k + 1 => by
    have ih0 := tollref01_Fold.mono_l k
    · intro y0 y1 y2
      unfold tollref01_Fold.l0
      repeat' first
      | (with_reducible exact ih0 _ _ _)
      | (with_reducible exact LeO.refl _)
      | (with_reducible exact LeO.none _)
      | (with_reducible refine LeO.ite ?_ ?_)
      | (with_reducible refine LeO.bind ?_ (fun _ => ?_))
      | exact ih0 _ _ _
      | exact LeO.none _
      | refine LeO.ite ?_ ?_
      | refine LeO.bind ?_ (fun _ => ?_)
theorem tollref01_Fold.mono : ∀ a0 k, LeO (tollref01_Fold.f k a0) (tollref01_Fold.f (k + 1) a0) := by
  intro a0 k
  have ih0 := tollref01_Fold.mono_l k
  unfold tollref01_Fold.f
  repeat' first
      | (with_reducible exact ih0 _ _ _)
      | (with_reducible exact LeO.refl _)
      | (with_reducible exact LeO.none _)
      | (with_reducible refine LeO.ite ?_ ?_)
      | (with_reducible refine LeO.bind ?_ (fun _ => ?_))
      | exact ih0 _ _ _
      | exact LeO.none _
      | refine LeO.ite ?_ ?_
      | refine LeO.bind ?_ (fun _ => ?_)
set_option maxHeartbeats 8000000 in
set_option maxRecDepth 100000 in
theorem tollref01_Fold.calls (k : Nat) (a0 : ByteArray) (r : ByteArray) (w : World) (h : tollref01_Fold.f k a0 = some r) :
    Calls Try.prog 37 #[.string a0] w fun e w' => e = .returned (.string r) ∧ Below w.heap.size w w' := by
  have HB := Aside0.mk (Below.refl w.heap.size w)
  have H : (tollref01_Fold.l0 k a0 (⟨#[]⟩ : ByteArray) 0) = some r := h
  clear h
  have H' := Aside0.mk H
  clear H
  go_enter Try.func37, Try.ntmps37
  go_wp2
  go_loopg [3, 4] k (fun kq v3 v4 w' => ∃ (x3_1 : ByteArray) (x4_1 : Int), v3 = .string x3_1 ∧ v4 = .int .i64 x4_1 ∧ Aside0 (tollref01_Fold.l0 kq a0 x3_1 x4_1 = some r) ∧ Aside0 (kq ≤ k) ∧ Aside0 (Below w.heap.size w w'))
  case atStart => exact ⟨((⟨#[]⟩ : ByteArray)), (0), (by first | rfl | (simp; done) | (simp [*]; done)), (by first | rfl | (simp; done) | (simp [*]; done)), H', ⟨Nat.le_refl _⟩, ⟨by repeat (first | (with_reducible first | exact HB.out | apply below_alloc | apply pw_below_drewN | apply below_drew1) | exact HB.out)⟩⟩
  case round =>
    clear H'
    obtain ⟨x3_1, x4_1, rfl, rfl, HA, HK1, HB⟩ := hrel
    cases gk with
    | zero => exact absurd HA.out (by simp [tollref01_Fold.l0])
    | succ k1 =>
      have H := HA.out
      clear HA
      simp only [tollref01_Fold.l0] at H
      by_cases c2 : x4_1 < (a0.size : Int)
      · rw [if_pos c2] at H
        have c2b0 : decide (x4_1 < (a0.size : Int)) = true := decide_eq_true c2
        clear c2
        by_cases c3 : 0 ≤ x4_1
        · rw [if_pos c3] at H
          have c3b0 : decide (0 ≤ x4_1) = true := decide_eq_true c3
          clear c3
          by_cases c5 : 65 ≤ (bt a0 x4_1)
          · rw [if_pos c5] at H
            have c5b0 : decide (65 ≤ (bt a0 x4_1)) = true := decide_eq_true c5
            clear c5
            by_cases c6 : (bt a0 x4_1) ≤ 90
            · rw [if_pos c6] at H
              have c6b0 : decide ((bt a0 x4_1) ≤ 90) = true := decide_eq_true c6
              clear c6
              obtain ⟨y118, hy118⟩ : ∃ y_ : List Int, y_ = (([((bt a0 x4_1) + 32) % 256] : List Int)) := ⟨_, rfl⟩
              replace H : (if x3_1.size + (strOfNums y118).size ≤ 9223372036854775807 then (tollref01_Fold.l0 k1 a0 (x3_1 ++ (strOfNums y118)) (wrap64 (x4_1 + 1))) else (none)) = some r := by first | (rw [hy118]; with_reducible exact H) | (have H2_ := (Option.bind_some _ _).symm.trans H; rw [hy118]; with_reducible exact H2_) | (have H2_ := (Option.bind_some _ _).symm.trans H; with_reducible exact H2_) | with_reducible exact H | (rw [hy118]; exact H) | exact H
              have Ny118 := Aside0.mk hy118
              clear hy118
              by_cases c7 : x3_1.size + (strOfNums y118).size ≤ 9223372036854775807
              · rw [if_pos c7] at H
                have c7b0 := eq_true c7
                have c7b1 : decide (x3_1.size + (strOfNums y118).size ≤ 9223372036854775807) = true := decide_eq_true c7
                try have c7b2 : (9223372036854775807 < x3_1.size + (strOfNums y118).size) = False := eq_false (Nat.not_lt.2 c7)
                have H' := Aside0.mk H
                clear H
                have p4 : 0 ≤ (x4_1 : Int) := of_decide_eq_true (by first | (with_reducible assumption) | assumption)
                have q4 : x4_1 < (a0.size : Int) := of_decide_eq_true (by first | (with_reducible assumption) | assumption)
                have hx4 := bt_at a0 x4_1
                replace p4 := eq_true p4
                replace q4 := eq_true q4
                go_wp2_with (first | ((with_reducible refine gate_dst (N := 25) rfl ?_); refine Kd.R_lit (Kd.int .u8) _ 5 ?hg (N := 25) ?hd (xs := ([((bt a0 x4_1) + 32) % 256] : List Int)) (inner := [.int .u8 (((bt a0 x4_1) + 32) % 256)]) (ok := fun _ => True) (okp := fun _ => True) ?hr ?hp (fun _ hk => hk) trivial (Below.refl _ _) (Nat.le_refl _) (by simp) ?_; (case hd => rfl); (case hg => rfl); (case hr => first | (go_simp; done) | (go_simp; rfl)); (case hp => exact (Reps.one (show Kd.M (Kd.int .u8) _ _ _ (((bt a0 x4_1) + 32) % 256) [.int .u8 (((bt a0 x4_1) + 32) % 256)] from rfl) (Reps.none _ _))); intro v119 w8 ho9 hb hg_ hnew_; clear hg_ hnew_; (first | rw [← Ny118.out] at ho9 | (simp only [Int.reduceToNat] at ho9; rw [← Ny118.out] at ho9)); have n0_ := Aside0.mk (Kd.R_lower ho9 (below_size (by repeat (first | (with_reducible first | exact HB.out | apply below_alloc | apply pw_below_drewN | apply below_drew1) | exact HB.out)))); have n1_ := Aside0.mk (below_step (by repeat (first | (with_reducible first | exact HB.out | apply below_alloc | apply pw_below_drewN | apply below_drew1) | exact HB.out)) hb); clear HB; have HO120 := n0_; have HB := n1_; clear n0_ n1_; clear hb ho9; have hcv10 := own_string (P := Try.prog) Try.underlying53 Try.underlying5 Try.underlying9 (Kd.own_of_R HO120.out)))
                go_roundg k1
                case measure => have := HK1.out; omega
                case rel => exact ⟨(x3_1 ++ (strOfNums y118)), (wrap64 (x4_1 + 1)), (by first | rfl | (simp; done) | (simp [*]; done)), (by first | rfl | (simp; done) | (simp [*]; done)), H', ⟨by have := HK1.out; omega⟩, ⟨by repeat (first | (with_reducible first | exact HB.out | apply below_alloc | apply pw_below_drewN | apply below_drew1) | exact HB.out)⟩⟩
              · rw [if_neg c7] at H
                exact absurd H (by simp)
            · rw [if_neg c6] at H
              have c6b0 : decide ((bt a0 x4_1) ≤ 90) = false := decide_eq_false c6
              clear c6
              obtain ⟨y121, hy121⟩ : ∃ y_ : List Int, y_ = (([bt a0 x4_1] : List Int)) := ⟨_, rfl⟩
              replace H : (if x3_1.size + (strOfNums y121).size ≤ 9223372036854775807 then (tollref01_Fold.l0 k1 a0 (x3_1 ++ (strOfNums y121)) (wrap64 (x4_1 + 1))) else (none)) = some r := by first | (rw [hy121]; with_reducible exact H) | (have H2_ := (Option.bind_some _ _).symm.trans H; rw [hy121]; with_reducible exact H2_) | (have H2_ := (Option.bind_some _ _).symm.trans H; with_reducible exact H2_) | with_reducible exact H | (rw [hy121]; exact H) | exact H
              have Ny121 := Aside0.mk hy121
              clear hy121
              by_cases c11 : x3_1.size + (strOfNums y121).size ≤ 9223372036854775807
              · rw [if_pos c11] at H
                have c11b0 := eq_true c11
                have c11b1 : decide (x3_1.size + (strOfNums y121).size ≤ 9223372036854775807) = true := decide_eq_true c11
                try have c11b2 : (9223372036854775807 < x3_1.size + (strOfNums y121).size) = False := eq_false (Nat.not_lt.2 c11)
                have H' := Aside0.mk H
                clear H
                have p4 : 0 ≤ (x4_1 : Int) := of_decide_eq_true (by first | (with_reducible assumption) | assumption)
                have q4 : x4_1 < (a0.size : Int) := of_decide_eq_true (by first | (with_reducible assumption) | assumption)
                have hx4 := bt_at a0 x4_1
                replace p4 := eq_true p4
                replace q4 := eq_true q4
                go_wp2_with (first | ((with_reducible refine gate_dst (N := 25) rfl ?_); refine Kd.R_lit (Kd.int .u8) _ 5 ?hg (N := 25) ?hd (xs := ([bt a0 x4_1] : List Int)) (inner := [.int .u8 (bt a0 x4_1)]) (ok := fun _ => True) (okp := fun _ => True) ?hr ?hp (fun _ hk => hk) trivial (Below.refl _ _) (Nat.le_refl _) (by simp) ?_; (case hd => rfl); (case hg => rfl); (case hr => first | (go_simp; done) | (go_simp; rfl)); (case hp => exact (Reps.one (show Kd.M (Kd.int .u8) _ _ _ (bt a0 x4_1) [.int .u8 (bt a0 x4_1)] from rfl) (Reps.none _ _))); intro v122 w12 ho13 hb hg_ hnew_; clear hg_ hnew_; (first | rw [← Ny121.out] at ho13 | (simp only [Int.reduceToNat] at ho13; rw [← Ny121.out] at ho13)); have n0_ := Aside0.mk (Kd.R_lower ho13 (below_size (by repeat (first | (with_reducible first | exact HB.out | apply below_alloc | apply pw_below_drewN | apply below_drew1) | exact HB.out)))); have n1_ := Aside0.mk (below_step (by repeat (first | (with_reducible first | exact HB.out | apply below_alloc | apply pw_below_drewN | apply below_drew1) | exact HB.out)) hb); clear HB; have HO123 := n0_; have HB := n1_; clear n0_ n1_; clear hb ho13; have hcv14 := own_string (P := Try.prog) Try.underlying53 Try.underlying5 Try.underlying9 (Kd.own_of_R HO123.out)))
                go_roundg k1
                case measure => have := HK1.out; omega
                case rel => exact ⟨(x3_1 ++ (strOfNums y121)), (wrap64 (x4_1 + 1)), (by first | rfl | (simp; done) | (simp [*]; done)), (by first | rfl | (simp; done) | (simp [*]; done)), H', ⟨by have := HK1.out; omega⟩, ⟨by repeat (first | (with_reducible first | exact HB.out | apply below_alloc | apply pw_below_drewN | apply below_drew1) | exact HB.out)⟩⟩
              · rw [if_neg c11] at H
                exact absurd H (by simp)
          · rw [if_neg c5] at H
            have c5b0 : decide (65 ≤ (bt a0 x4_1)) = false := decide_eq_false c5
            clear c5
            obtain ⟨y124, hy124⟩ : ∃ y_ : List Int, y_ = (([bt a0 x4_1] : List Int)) := ⟨_, rfl⟩
            replace H : (if x3_1.size + (strOfNums y124).size ≤ 9223372036854775807 then (tollref01_Fold.l0 k1 a0 (x3_1 ++ (strOfNums y124)) (wrap64 (x4_1 + 1))) else (none)) = some r := by first | (rw [hy124]; with_reducible exact H) | (have H2_ := (Option.bind_some _ _).symm.trans H; rw [hy124]; with_reducible exact H2_) | (have H2_ := (Option.bind_some _ _).symm.trans H; with_reducible exact H2_) | with_reducible exact H | (rw [hy124]; exact H) | exact H
            have Ny124 := Aside0.mk hy124
            clear hy124
            by_cases c15 : x3_1.size + (strOfNums y124).size ≤ 9223372036854775807
            · rw [if_pos c15] at H
              have c15b0 := eq_true c15
              have c15b1 : decide (x3_1.size + (strOfNums y124).size ≤ 9223372036854775807) = true := decide_eq_true c15
              try have c15b2 : (9223372036854775807 < x3_1.size + (strOfNums y124).size) = False := eq_false (Nat.not_lt.2 c15)
              have H' := Aside0.mk H
              clear H
              have p4 : 0 ≤ (x4_1 : Int) := of_decide_eq_true (by first | (with_reducible assumption) | assumption)
              have q4 : x4_1 < (a0.size : Int) := of_decide_eq_true (by first | (with_reducible assumption) | assumption)
              have hx4 := bt_at a0 x4_1
              replace p4 := eq_true p4
              replace q4 := eq_true q4
              go_wp2_with (first | ((with_reducible refine gate_dst (N := 25) rfl ?_); refine Kd.R_lit (Kd.int .u8) _ 5 ?hg (N := 25) ?hd (xs := ([bt a0 x4_1] : List Int)) (inner := [.int .u8 (bt a0 x4_1)]) (ok := fun _ => True) (okp := fun _ => True) ?hr ?hp (fun _ hk => hk) trivial (Below.refl _ _) (Nat.le_refl _) (by simp) ?_; (case hd => rfl); (case hg => rfl); (case hr => first | (go_simp; done) | (go_simp; rfl)); (case hp => exact (Reps.one (show Kd.M (Kd.int .u8) _ _ _ (bt a0 x4_1) [.int .u8 (bt a0 x4_1)] from rfl) (Reps.none _ _))); intro v125 w16 ho17 hb hg_ hnew_; clear hg_ hnew_; (first | rw [← Ny124.out] at ho17 | (simp only [Int.reduceToNat] at ho17; rw [← Ny124.out] at ho17)); have n0_ := Aside0.mk (Kd.R_lower ho17 (below_size (by repeat (first | (with_reducible first | exact HB.out | apply below_alloc | apply pw_below_drewN | apply below_drew1) | exact HB.out)))); have n1_ := Aside0.mk (below_step (by repeat (first | (with_reducible first | exact HB.out | apply below_alloc | apply pw_below_drewN | apply below_drew1) | exact HB.out)) hb); clear HB; have HO126 := n0_; have HB := n1_; clear n0_ n1_; clear hb ho17; have hcv18 := own_string (P := Try.prog) Try.underlying53 Try.underlying5 Try.underlying9 (Kd.own_of_R HO126.out)))
              go_roundg k1
              case measure => have := HK1.out; omega
              case rel => exact ⟨(x3_1 ++ (strOfNums y124)), (wrap64 (x4_1 + 1)), (by first | rfl | (simp; done) | (simp [*]; done)), (by first | rfl | (simp; done) | (simp [*]; done)), H', ⟨by have := HK1.out; omega⟩, ⟨by repeat (first | (with_reducible first | exact HB.out | apply below_alloc | apply pw_below_drewN | apply below_drew1) | exact HB.out)⟩⟩
            · rw [if_neg c15] at H
              exact absurd H (by simp)
        · rw [if_neg c3] at H
          exact absurd H (by simp)
      · rw [if_neg c2] at H
        have c2b0 : decide (x4_1 < (a0.size : Int)) = false := decide_eq_false c2
        clear c2
        obtain rfl := Option.some.inj H
        go_wp2
        go_ret
        exact ⟨by first | rfl | (simp [errW_none, errW_some] <;> rfl) | (simp [*, errW_none, errW_some] <;> rfl), by repeat (first | (with_reducible first | exact HB.out | apply below_alloc | apply pw_below_drewN | apply below_drew1) | exact HB.out)⟩

/-! ### tollref05_Same: function 26 -/
def tollref05_Same.f (k : Nat) (a0 : ByteArray) (a1 : ByteArray) : Option (Bool) := (tollref01_Fold.f k a0).bind fun t127 => ((tollref01_Fold.f k a1).bind fun t128 => (some (t127.toList == t128.toList)))
theorem tollref05_Same.mono : ∀ a0 a1 k, LeO (tollref05_Same.f k a0 a1) (tollref05_Same.f (k + 1) a0 a1) := by
  intro a0 a1 k
  unfold tollref05_Same.f
  repeat' first
      | (with_reducible exact tollref01_Fold.mono _ _)
      | (with_reducible exact LeO.refl _)
      | (with_reducible exact LeO.none _)
      | (with_reducible refine LeO.ite ?_ ?_)
      | (with_reducible refine LeO.bind ?_ (fun _ => ?_))
      | exact tollref01_Fold.mono _ _
      | exact LeO.none _
      | refine LeO.ite ?_ ?_
      | refine LeO.bind ?_ (fun _ => ?_)
set_option maxHeartbeats 8000000 in
set_option maxRecDepth 100000 in
theorem tollref05_Same.calls (k : Nat) (a0 : ByteArray) (a1 : ByteArray) (r : Bool) (w : World) (h : tollref05_Same.f k a0 a1 = some r) :
    Calls Try.prog 26 #[.string a0, .string a1] w fun e w' => e = .returned (.bool r) ∧ Below w.heap.size w w' := by
  have HB := Aside0.mk (Below.refl w.heap.size w)
  have H : ((tollref01_Fold.f k a0).bind fun t127 => ((tollref01_Fold.f k a1).bind fun t128 => (some (t127.toList == t128.toList)))) = some r := h
  clear h
  replace H := Option.bind_eq_some_iff.mp H
  obtain ⟨t127, A30, H⟩ := H
  replace H : ((tollref01_Fold.f k a1).bind fun t128 => (some (t127.toList == t128.toList))) = some r := H
  have A3 := Aside0.mk A30
  clear A30
  replace H := Option.bind_eq_some_iff.mp H
  obtain ⟨t128, A40, H⟩ := H
  replace H : (some (t127.toList == t128.toList)) = some r := H
  have A4 := Aside0.mk A40
  clear A40
  obtain rfl := Option.some.inj H
  go_enter Try.func26, Try.ntmps26
  go_wp2_with (first | ((with_reducible refine gate_callee (f := 37) rfl ?_); refine goesL_ (some 6) rfl rfl Try.func37 (by kernel_rfl) rfl #[.string a0] rfl (by (try simp only [List.map_toArray, List.map_cons, List.map_nil]); first | done | rfl | (simp only [List.length_drop, List.length_take]; rfl)) ?_; (with_reducible refine (tollref01_Fold.calls k a0 t127 _ A3.out).mono ?_); rintro e w5 ⟨rfl, hb⟩; refine ⟨_, rfl, ?_⟩; have n0_ := Aside0.mk (below_step (by repeat (first | (with_reducible first | exact HB.out | apply below_alloc | apply pw_below_drewN | apply below_drew1) | exact HB.out)) hb); clear HB; have HB := n0_; clear n0_; (try clear hb); (try clear hb2); (try clear hk); (try clear hi)) | ((with_reducible refine gate_callee (f := 37) rfl ?_); refine goesL_ (some 8) rfl rfl Try.func37 (by kernel_rfl) rfl #[.string a1] rfl (by (try simp only [List.map_toArray, List.map_cons, List.map_nil]); first | done | rfl | (simp only [List.length_drop, List.length_take]; rfl)) ?_; (with_reducible refine (tollref01_Fold.calls k a1 t128 _ A4.out).mono ?_); rintro e w6 ⟨rfl, hb⟩; refine ⟨_, rfl, ?_⟩; have n0_ := Aside0.mk (below_step (by repeat (first | (with_reducible first | exact HB.out | apply below_alloc | apply pw_below_drewN | apply below_drew1) | exact HB.out)) hb); clear HB; have HB := n0_; clear n0_; (try clear hb); (try clear hb2); (try clear hk); (try clear hi)))
  go_ret
  exact ⟨by first | rfl | (simp [errW_none, errW_some] <;> rfl) | (simp [*, errW_none, errW_some] <;> rfl), by repeat (first | (with_reducible first | exact HB.out | apply below_alloc | apply pw_below_drewN | apply below_drew1) | exact HB.out)⟩

/-! ### tollref05_Set: function 13 -/
def tollref05_Set.l0 : Nat → List (S29) → ByteArray → ByteArray → List (S29) → Bool → Int → Option ((List (S29)))
  | 0, _, _, _, _, _, _ => none
  | k + 1, x0, x1, x2, x7, x8, x9 => if x9 < (x0.length : Int) then (if 0 ≤ x9 then ((tollref05_Same.f k ((rd_T29 x0 x9).f0) x1).bind fun t133 => (if t133 = true then (if x8 = true then (tollref05_Set.l0 k x0 x1 x2 x7 true (wrap64 (x9 + 1))) else (if x7.length < 4398046511104 then (tollref05_Set.l0 k x0 x1 x2 (x7 ++ [(⟨x1, x2⟩ : S29)]) true (wrap64 (x9 + 1))) else (none))) else (if x7.length < 4398046511104 then (tollref05_Set.l0 k x0 x1 x2 (x7 ++ [(⟨(rd_T29 x0 x9).f0, (rd_T29 x0 x9).f1⟩ : S29)]) x8 (wrap64 (x9 + 1))) else (none)))) else (none)) else (if x8 = true then (some x7) else (if x7.length < 4398046511104 then (some (x7 ++ [(⟨x1, x2⟩ : S29)])) else (none)))
def tollref05_Set.f (k : Nat) (l0 : List (S29)) (a1 : ByteArray) (a2 : ByteArray) : Option ((List (S29))) := tollref05_Set.l0 k l0 a1 a2 ([] : List (S29)) false 0
theorem tollref05_Set.mono_l : ∀ k, (∀ y0 y1 y2 y3 y4 y5, LeO (tollref05_Set.l0 k y0 y1 y2 y3 y4 y5) (tollref05_Set.l0 (k + 1) y0 y1 y2 y3 y4 y5))
  | 0 => fun _ _ _ _ _ _ r h => by simp [tollref05_Set.l0] at h
  | k + 1 => by
    have ih0 := tollref05_Set.mono_l k
    · intro y0 y1 y2 y3 y4 y5
      unfold tollref05_Set.l0
      repeat' first
      | (with_reducible exact ih0 _ _ _ _ _ _)
      | (with_reducible exact tollref05_Same.mono _ _ _)
      | (with_reducible exact LeO.refl _)
      | (with_reducible exact LeO.none _)
      | (with_reducible refine LeO.ite ?_ ?_)
      | (with_reducible refine LeO.bind ?_ (fun _ => ?_))
      | exact ih0 _ _ _ _ _ _
      | exact tollref05_Same.mono _ _ _
      | exact LeO.none _
      | refine LeO.ite ?_ ?_
      | refine LeO.bind ?_ (fun _ => ?_)
theorem tollref05_Set.mono : ∀ a0 a1 a2 k, LeO (tollref05_Set.f k a0 a1 a2) (tollref05_Set.f (k + 1) a0 a1 a2) := by
  intro a0 a1 a2 k
  have ih0 := tollref05_Set.mono_l k
  unfold tollref05_Set.f
  repeat' first
      | (with_reducible exact ih0 _ _ _ _ _ _)
      | (with_reducible exact tollref05_Same.mono _ _ _)
      | (with_reducible exact LeO.refl _)
      | (with_reducible exact LeO.none _)
      | (with_reducible refine LeO.ite ?_ ?_)
      | (with_reducible refine LeO.bind ?_ (fun _ => ?_))
      | exact ih0 _ _ _ _ _ _
      | exact tollref05_Same.mono _ _ _
      | exact LeO.none _
      | refine LeO.ite ?_ ?_
      | refine LeO.bind ?_ (fun _ => ?_)
set_option maxHeartbeats 8000000 in
set_option maxRecDepth 100000 in
theorem tollref05_Set.calls (k : Nat) (A0 : Option Addr) (c0 : Nat) (l0 : List (S29)) (a1 : ByteArray) (a2 : ByteArray) (r : List (S29)) (w : World) (hr0 : Kd.C k29 w A0 l0.length l0) (hc0 : l0.length ≤ c0) (h : tollref05_Set.f k l0 a1 a2 = some r) :
    Calls Try.prog 13 #[.slice A0 l0.length c0, .string a1, .string a2] w fun e w' => ∃ v0_ : Value, e = .returned (v0_) ∧ Kd.R k29 29 w' w.heap.size (fun _ => True) v0_ r ∧ Below w.heap.size w w' := by
  have hu29 := Try.underlying29
  have HR0 := Aside0.mk hr0
  have HC0 := Aside0.mk hc0
  clear hr0 hc0
  have HB := Aside0.mk (Below.refl w.heap.size w)
  have H : (tollref05_Set.l0 k l0 a1 a2 ([] : List (S29)) false 0) = some r := h
  clear h
  have H' := Aside0.mk H
  clear H
  go_enter Try.func13, Try.ntmps13
  go_wp2
  go_loopg [7, 8, 9] k (fun kq v7 v8 v9 w' => ∃ (x7_1 : List (S29)) (x8_1 : Bool) (x9_1 : Int), v8 = .bool x8_1 ∧ v9 = .int .i64 x9_1 ∧ Aside0 (tollref05_Set.l0 kq l0 a1 a2 x7_1 x8_1 x9_1 = some r) ∧ Aside0 (kq ≤ k) ∧ Aside0 (Kd.R k29 29 w' w.heap.size (fun _ => True) v7 x7_1) ∧ Aside0 (Below w.heap.size w w'))
  case atStart => exact ⟨(([] : List (S29))), (false), (0), (by first | rfl | (simp; done) | (simp [*]; done)), (by first | rfl | (simp; done) | (simp [*]; done)), H', ⟨Nat.le_refl _⟩, ⟨by first | exact Kd.R_nil _ _ _ _ _ | exact Kd.N_nil _ _ _ _ _ | exact Kd.V_nil _ _ _ _ _ | exact Kd.Q_nil _ _ _ _ _ | exact Kd.S_nil _ _ _ _ _⟩, ⟨by repeat (first | (with_reducible first | exact HB.out | apply below_alloc | apply pw_below_drewN | apply below_drew1) | exact HB.out)⟩⟩
  case round =>
    clear H'
    try clear c1
    try clear p2
    obtain ⟨x7_1, x8_1, x9_1, rfl, rfl, HA, HK1, HO_7, HB⟩ := hrel
    cases gk with
    | zero => exact absurd HA.out (by simp [tollref05_Set.l0])
    | succ k1 =>
      have H := HA.out
      clear HA
      simp only [tollref05_Set.l0] at H
      by_cases c4 : x9_1 < (l0.length : Int)
      · rw [if_pos c4] at H
        have c4b0 : decide (x9_1 < (l0.length : Int)) = true := decide_eq_true c4
        clear c4
        by_cases c5 : 0 ≤ x9_1
        · rw [if_pos c5] at H
          have c5b0 : decide (0 ≤ x9_1) = true := decide_eq_true c5
          clear c5
          replace H := Option.bind_eq_some_iff.mp H
          obtain ⟨t133, A60, H⟩ := H
          replace H : (if t133 = true then (if x8_1 = true then (tollref05_Set.l0 k1 l0 a1 a2 x7_1 true (wrap64 (x9_1 + 1))) else (if x7_1.length < 4398046511104 then (tollref05_Set.l0 k1 l0 a1 a2 (x7_1 ++ [(⟨a1, a2⟩ : S29)]) true (wrap64 (x9_1 + 1))) else (none))) else (if x7_1.length < 4398046511104 then (tollref05_Set.l0 k1 l0 a1 a2 (x7_1 ++ [(⟨(rd_T29 l0 x9_1).f0, (rd_T29 l0 x9_1).f1⟩ : S29)]) x8_1 (wrap64 (x9_1 + 1))) else (none))) = some r := H
          have A6 := Aside0.mk A60
          clear A60
          by_cases c7 : t133 = true
          · subst c7
            have H1 : (if x8_1 = true then (tollref05_Set.l0 k1 l0 a1 a2 x7_1 true (wrap64 (x9_1 + 1))) else (if x7_1.length < 4398046511104 then (tollref05_Set.l0 k1 l0 a1 a2 (x7_1 ++ [(⟨a1, a2⟩ : S29)]) true (wrap64 (x9_1 + 1))) else (none))) = some r := by rw [if_pos rfl] at H; exact H
            clear H
            have H := H1
            clear H1
            by_cases c8 : x8_1 = true
            · subst c8
              have H1 : (tollref05_Set.l0 k1 l0 a1 a2 x7_1 true (wrap64 (x9_1 + 1))) = some r := by rw [if_pos rfl] at H; exact H
              clear H
              have H := H1
              clear H1
              have H' := Aside0.mk H
              clear H
              have p132 : 0 ≤ (x9_1 : Int) := of_decide_eq_true (by first | (with_reducible assumption) | assumption)
              have q132 : x9_1 < (l0.length : Int) := of_decide_eq_true (by first | (with_reducible assumption) | assumption)
              obtain ⟨ad132, e132, hx132_0, hx132_1⟩ := at_T29 HR0.out x9_1 p132 q132
              cases e132
              replace hx132_0 := (HB.out.cell (World.block_lt_of_cell? w _ hx132_0)).trans hx132_0
              replace hx132_1 := (HB.out.cell (World.block_lt_of_cell? w _ hx132_1)).trans hx132_1
              replace p132 := eq_true p132
              replace q132 := eq_true q132
              go_wp2_with (first | ((with_reducible refine gate_callee (f := 26) rfl ?_); refine goesL_ (some 22) rfl rfl Try.func26 (by kernel_rfl) rfl #[.string ((rd_T29 l0 x9_1).f0), .string a1] rfl (by (try simp only [List.map_toArray, List.map_cons, List.map_nil]); first | done | rfl | (simp only [List.length_drop, List.length_take]; rfl)) ?_; (with_reducible refine (tollref05_Same.calls k1 ((rd_T29 l0 x9_1).f0) a1 true _ A6.out).mono ?_); rintro e w9 ⟨rfl, hb⟩; refine ⟨_, rfl, ?_⟩; have n0_ := Aside0.mk (Kd.R_below (by (with_reducible repeat (first | apply Kd.R_alloc | apply Kd.R_drewN | apply Kd.R_drew)); exact HO_7.out) hb); have n1_ := Aside0.mk (below_step (by repeat (first | (with_reducible first | exact HB.out | apply below_alloc | apply pw_below_drewN | apply below_drew1) | exact HB.out)) hb); clear HO_7; clear HB; have HO_7 := n0_; have HB := n1_; clear n0_ n1_; (try clear hb); (try clear hb2); (try clear hk); (try clear hi)))
              go_roundg k1
              case measure => have := HK1.out; omega
              case rel => exact ⟨(x7_1), (true), (wrap64 (x9_1 + 1)), (by first | rfl | (simp; done) | (simp [*]; done)), (by first | rfl | (simp; done) | (simp [*]; done)), H', ⟨by have := HK1.out; omega⟩, ⟨by (with_reducible repeat (first | apply Kd.R_alloc | apply Kd.R_drewN | apply Kd.R_drew)); exact HO_7.out⟩, ⟨by repeat (first | (with_reducible first | exact HB.out | apply below_alloc | apply pw_below_drewN | apply below_drew1) | exact HB.out)⟩⟩
            · replace c8 := Bool.eq_false_iff.mpr c8
              subst c8
              have H1 : (if x7_1.length < 4398046511104 then (tollref05_Set.l0 k1 l0 a1 a2 (x7_1 ++ [(⟨a1, a2⟩ : S29)]) true (wrap64 (x9_1 + 1))) else (none)) = some r := by rw [if_neg (show ¬ (false = true) by decide)] at H; exact H
              clear H
              have H := H1
              clear H1
              by_cases c10 : x7_1.length < 4398046511104
              · rw [if_pos c10] at H
                have LMc10 := Aside0.mk c10
                clear c10
                obtain ⟨y134, hy134⟩ : ∃ y_ : List (S29), y_ = (x7_1 ++ [(⟨a1, a2⟩ : S29)]) := ⟨_, rfl⟩
                replace H : (tollref05_Set.l0 k1 l0 a1 a2 y134 true (wrap64 (x9_1 + 1))) = some r := by first | (rw [hy134]; with_reducible exact H) | (have H2_ := (Option.bind_some _ _).symm.trans H; rw [hy134]; with_reducible exact H2_) | (have H2_ := (Option.bind_some _ _).symm.trans H; with_reducible exact H2_) | with_reducible exact H | (rw [hy134]; exact H) | exact H
                have Ny134 := Aside0.mk hy134
                clear hy134
                have H' := Aside0.mk H
                clear H
                have p132 : 0 ≤ (x9_1 : Int) := of_decide_eq_true (by first | (with_reducible assumption) | assumption)
                have q132 : x9_1 < (l0.length : Int) := of_decide_eq_true (by first | (with_reducible assumption) | assumption)
                obtain ⟨ad132, e132, hx132_0, hx132_1⟩ := at_T29 HR0.out x9_1 p132 q132
                cases e132
                replace hx132_0 := (HB.out.cell (World.block_lt_of_cell? w _ hx132_0)).trans hx132_0
                replace hx132_1 := (HB.out.cell (World.block_lt_of_cell? w _ hx132_1)).trans hx132_1
                replace p132 := eq_true p132
                replace q132 := eq_true q132
                go_wp2_with (first | ((with_reducible refine gate_callee (f := 26) rfl ?_); refine goesL_ (some 22) rfl rfl Try.func26 (by kernel_rfl) rfl #[.string ((rd_T29 l0 x9_1).f0), .string a1] rfl (by (try simp only [List.map_toArray, List.map_cons, List.map_nil]); first | done | rfl | (simp only [List.length_drop, List.length_take]; rfl)) ?_; (with_reducible refine (tollref05_Same.calls k1 ((rd_T29 l0 x9_1).f0) a1 true _ A6.out).mono ?_); rintro e w11 ⟨rfl, hb⟩; refine ⟨_, rfl, ?_⟩; have n0_ := Aside0.mk (Kd.R_below (by (with_reducible repeat (first | apply Kd.R_alloc | apply Kd.R_drewN | apply Kd.R_drew)); exact HO_7.out) hb); have n1_ := Aside0.mk (below_step (by repeat (first | (with_reducible first | exact HB.out | apply below_alloc | apply pw_below_drewN | apply below_drew1) | exact HB.out)) hb); clear HO_7; clear HB; have HO_7 := n0_; have HB := n1_; clear n0_ n1_; (try clear hb); (try clear hb2); (try clear hk); (try clear hi)) | ((with_reducible refine gate_builtin (b := .append) (xs := #[.tmp 33, .tmp 37]) rfl ?_); at_builtin; refine Kd.R_append k29 (w0 := w) w.heap.size rfl (.tmp 33) (.tmp 37) 22 29 (.agg #[(.string ⟨#[]⟩), (.string ⟨#[]⟩)]) 32 rfl Try.underlying22 info29 rfl (by decide) (by omega) u7 x7_1 (⟨a1, a2⟩ : S29) [.string a1, .string a2] (fun _ => True) (fun _ => False) rfl rfl ?aP (fun _ hk => hk.elim) ?aF ?aO ?aB ?aS ?aL ?_; (case aP => exact k29_mkM _ _ _ (⟨a1, a2⟩ : S29)); (case aB => exact (by repeat (first | (with_reducible first | exact HB.out | apply below_alloc | apply pw_below_drewN | apply below_drew1) | exact HB.out))); (case aF => exact (fun _ _ => trivial)); (case aO => exact (by (with_reducible repeat (first | apply Kd.R_alloc | apply Kd.R_drewN | apply Kd.R_drew)); exact HO_7.out)); (case aS => exact (below_size (by repeat (first | (with_reducible first | exact HB.out | apply below_alloc | apply pw_below_drewN | apply below_drew1) | exact HB.out)))); (case aL => have := LMc10.out; omega); intro v135 w12 ho hb hg hat; rw [← Ny134.out] at ho; have n0_ := Aside0.mk (hb); have n1_ := Aside0.mk (ho); clear HB; clear HO_7; have HB := n0_; have HO136 := n1_; clear n0_ n1_; clear ho hb hg hat))
                go_roundg k1
                case measure => have := HK1.out; omega
                case rel => exact ⟨(y134), (true), (wrap64 (x9_1 + 1)), (by first | rfl | (simp; done) | (simp [*]; done)), (by first | rfl | (simp; done) | (simp [*]; done)), H', ⟨by have := HK1.out; omega⟩, ⟨by (with_reducible repeat (first | apply Kd.R_alloc | apply Kd.R_drewN | apply Kd.R_drew)); exact HO136.out⟩, ⟨by repeat (first | (with_reducible first | exact HB.out | apply below_alloc | apply pw_below_drewN | apply below_drew1) | exact HB.out)⟩⟩
              · rw [if_neg c10] at H
                exact absurd H (by simp)
          · replace c7 := Bool.eq_false_iff.mpr c7
            subst c7
            have H1 : (if x7_1.length < 4398046511104 then (tollref05_Set.l0 k1 l0 a1 a2 (x7_1 ++ [(⟨(rd_T29 l0 x9_1).f0, (rd_T29 l0 x9_1).f1⟩ : S29)]) x8_1 (wrap64 (x9_1 + 1))) else (none)) = some r := by rw [if_neg (show ¬ (false = true) by decide)] at H; exact H
            clear H
            have H := H1
            clear H1
            by_cases c13 : x7_1.length < 4398046511104
            · rw [if_pos c13] at H
              have LMc13 := Aside0.mk c13
              clear c13
              obtain ⟨y138, hy138⟩ : ∃ y_ : List (S29), y_ = (x7_1 ++ [(⟨(rd_T29 l0 x9_1).f0, (rd_T29 l0 x9_1).f1⟩ : S29)]) := ⟨_, rfl⟩
              replace H : (tollref05_Set.l0 k1 l0 a1 a2 y138 x8_1 (wrap64 (x9_1 + 1))) = some r := by first | (rw [hy138]; with_reducible exact H) | (have H2_ := (Option.bind_some _ _).symm.trans H; rw [hy138]; with_reducible exact H2_) | (have H2_ := (Option.bind_some _ _).symm.trans H; with_reducible exact H2_) | with_reducible exact H | (rw [hy138]; exact H) | exact H
              have Ny138 := Aside0.mk hy138
              clear hy138
              have H' := Aside0.mk H
              clear H
              have p132 : 0 ≤ (x9_1 : Int) := of_decide_eq_true (by first | (with_reducible assumption) | assumption)
              have q132 : x9_1 < (l0.length : Int) := of_decide_eq_true (by first | (with_reducible assumption) | assumption)
              obtain ⟨ad132, e132, hx132_0, hx132_1⟩ := at_T29 HR0.out x9_1 p132 q132
              cases e132
              replace hx132_0 := (HB.out.cell (World.block_lt_of_cell? w _ hx132_0)).trans hx132_0
              replace hx132_1 := (HB.out.cell (World.block_lt_of_cell? w _ hx132_1)).trans hx132_1
              replace p132 := eq_true p132
              replace q132 := eq_true q132
              go_wp2_with (first | ((with_reducible refine gate_callee (f := 26) rfl ?_); refine goesL_ (some 22) rfl rfl Try.func26 (by kernel_rfl) rfl #[.string ((rd_T29 l0 x9_1).f0), .string a1] rfl (by (try simp only [List.map_toArray, List.map_cons, List.map_nil]); first | done | rfl | (simp only [List.length_drop, List.length_take]; rfl)) ?_; (with_reducible refine (tollref05_Same.calls k1 ((rd_T29 l0 x9_1).f0) a1 false _ A6.out).mono ?_); rintro e w14 ⟨rfl, hb⟩; refine ⟨_, rfl, ?_⟩; have n0_ := Aside0.mk (Kd.R_below (by (with_reducible repeat (first | apply Kd.R_alloc | apply Kd.R_drewN | apply Kd.R_drew)); exact HO_7.out) hb); have n1_ := Aside0.mk (below_step (by repeat (first | (with_reducible first | exact HB.out | apply below_alloc | apply pw_below_drewN | apply below_drew1) | exact HB.out)) hb); clear HO_7; clear HB; have HO_7 := n0_; have HB := n1_; clear n0_ n1_; (try clear hb); (try clear hb2); (try clear hk); (try clear hi); have p137 : 0 ≤ (x9_1 : Int) := of_decide_eq_true (by first | (with_reducible assumption) | assumption); have q137 : x9_1 < (l0.length : Int) := of_decide_eq_true (by first | (with_reducible assumption) | assumption); obtain ⟨ad137, e137, hx137_0, hx137_1⟩ := at_T29 HR0.out x9_1 p137 q137; obtain rfl : ad132 = ad137 := (by injection e137); replace hx137_0 := (HB.out.cell (World.block_lt_of_cell? w _ hx137_0)).trans hx137_0; replace hx137_1 := (HB.out.cell (World.block_lt_of_cell? w _ hx137_1)).trans hx137_1; replace p137 := eq_true p137; replace q137 := eq_true q137) | ((with_reducible refine gate_builtin (b := .append) (xs := #[.tmp 24, .tmp 29]) rfl ?_); at_builtin; refine Kd.R_append k29 (w0 := w) w.heap.size rfl (.tmp 24) (.tmp 29) 22 29 (.agg #[(.string ⟨#[]⟩), (.string ⟨#[]⟩)]) 32 rfl Try.underlying22 info29 rfl (by decide) (by omega) u7 x7_1 (⟨(rd_T29 l0 x9_1).f0, (rd_T29 l0 x9_1).f1⟩ : S29) [.string ((rd_T29 l0 x9_1).f0), .string ((rd_T29 l0 x9_1).f1)] (fun _ => True) (fun _ => False) rfl rfl ?aP (fun _ hk => hk.elim) ?aF ?aO ?aB ?aS ?aL ?_; (case aP => exact k29_mkM _ _ _ (⟨(rd_T29 l0 x9_1).f0, (rd_T29 l0 x9_1).f1⟩ : S29)); (case aB => exact (by repeat (first | (with_reducible first | exact HB.out | apply below_alloc | apply pw_below_drewN | apply below_drew1) | exact HB.out))); (case aF => exact (fun _ _ => trivial)); (case aO => exact (by (with_reducible repeat (first | apply Kd.R_alloc | apply Kd.R_drewN | apply Kd.R_drew)); exact HO_7.out)); (case aS => exact (below_size (by repeat (first | (with_reducible first | exact HB.out | apply below_alloc | apply pw_below_drewN | apply below_drew1) | exact HB.out)))); (case aL => have := LMc13.out; omega); intro v139 w15 ho hb hg hat; rw [← Ny138.out] at ho; have n0_ := Aside0.mk (hb); have n1_ := Aside0.mk (ho); clear HB; clear HO_7; have HB := n0_; have HO140 := n1_; clear n0_ n1_; clear ho hb hg hat))
              go_roundg k1
              case measure => have := HK1.out; omega
              case rel => exact ⟨(y138), (x8_1), (wrap64 (x9_1 + 1)), (by first | rfl | (simp; done) | (simp [*]; done)), (by first | rfl | (simp; done) | (simp [*]; done)), H', ⟨by have := HK1.out; omega⟩, ⟨by (with_reducible repeat (first | apply Kd.R_alloc | apply Kd.R_drewN | apply Kd.R_drew)); exact HO140.out⟩, ⟨by repeat (first | (with_reducible first | exact HB.out | apply below_alloc | apply pw_below_drewN | apply below_drew1) | exact HB.out)⟩⟩
            · rw [if_neg c13] at H
              exact absurd H (by simp)
        · rw [if_neg c5] at H
          exact absurd H (by simp)
      · rw [if_neg c4] at H
        have c4b0 : decide (x9_1 < (l0.length : Int)) = false := decide_eq_false c4
        clear c4
        by_cases c16 : x8_1 = true
        · subst c16
          have H1 : (some x7_1) = some r := by rw [if_pos rfl] at H; exact H
          clear H
          have H := H1
          clear H1
          obtain rfl := Option.some.inj H
          go_wp2
          go_ret
          exact ⟨_, by first | rfl | (simp [errW_none, errW_some] <;> rfl) | (simp [*, errW_none, errW_some] <;> rfl), by (with_reducible repeat (first | apply Kd.R_alloc | apply Kd.R_drewN | apply Kd.R_drew)); exact HO_7.out, by repeat (first | (with_reducible first | exact HB.out | apply below_alloc | apply pw_below_drewN | apply below_drew1) | exact HB.out)⟩
        · replace c16 := Bool.eq_false_iff.mpr c16
          subst c16
          have H1 : (if x7_1.length < 4398046511104 then (some (x7_1 ++ [(⟨a1, a2⟩ : S29)])) else (none)) = some r := by rw [if_neg (show ¬ (false = true) by decide)] at H; exact H
          clear H
          have H := H1
          clear H1
          by_cases c17 : x7_1.length < 4398046511104
          · rw [if_pos c17] at H
            have LMc17 := Aside0.mk c17
            clear c17
            obtain ⟨y129, hy129⟩ : ∃ y_ : List (S29), y_ = (x7_1 ++ [(⟨a1, a2⟩ : S29)]) := ⟨_, rfl⟩
            replace H : (some y129) = some r := by first | (rw [hy129]; with_reducible exact H) | (have H2_ := (Option.bind_some _ _).symm.trans H; rw [hy129]; with_reducible exact H2_) | (have H2_ := (Option.bind_some _ _).symm.trans H; with_reducible exact H2_) | with_reducible exact H | (rw [hy129]; exact H) | exact H
            have Ny129 := Aside0.mk hy129
            clear hy129
            obtain rfl := Option.some.inj H
            go_wp2_with (first | ((with_reducible refine gate_builtin (b := .append) (xs := #[.tmp 41, .tmp 45]) rfl ?_); at_builtin; refine Kd.R_append k29 (w0 := w) w.heap.size rfl (.tmp 41) (.tmp 45) 22 29 (.agg #[(.string ⟨#[]⟩), (.string ⟨#[]⟩)]) 32 rfl Try.underlying22 info29 rfl (by decide) (by omega) u7 x7_1 (⟨a1, a2⟩ : S29) [.string a1, .string a2] (fun _ => True) (fun _ => False) rfl rfl ?aP (fun _ hk => hk.elim) ?aF ?aO ?aB ?aS ?aL ?_; (case aP => exact k29_mkM _ _ _ (⟨a1, a2⟩ : S29)); (case aB => exact (by repeat (first | (with_reducible first | exact HB.out | apply below_alloc | apply pw_below_drewN | apply below_drew1) | exact HB.out))); (case aF => exact (fun _ _ => trivial)); (case aO => exact (by (with_reducible repeat (first | apply Kd.R_alloc | apply Kd.R_drewN | apply Kd.R_drew)); exact HO_7.out)); (case aS => exact (below_size (by repeat (first | (with_reducible first | exact HB.out | apply below_alloc | apply pw_below_drewN | apply below_drew1) | exact HB.out)))); (case aL => have := LMc17.out; omega); intro v130 w18 ho hb hg hat; rw [← Ny129.out] at ho; have n0_ := Aside0.mk (hb); have n1_ := Aside0.mk (ho); clear HB; clear HO_7; have HB := n0_; have HO131 := n1_; clear n0_ n1_; clear ho hb hg hat))
            go_ret
            exact ⟨_, by first | rfl | (simp [errW_none, errW_some] <;> rfl) | (simp [*, errW_none, errW_some] <;> rfl), by (with_reducible repeat (first | apply Kd.R_alloc | apply Kd.R_drewN | apply Kd.R_drew)); exact HO131.out, by repeat (first | (with_reducible first | exact HB.out | apply below_alloc | apply pw_below_drewN | apply below_drew1) | exact HB.out)⟩
          · rw [if_neg c17] at H
            exact absurd H (by simp)

/-! ### tollref05_Drop: function 15 -/
def tollref05_Drop.l0 : Nat → List (S29) → ByteArray → List (S29) → Int → Option ((List (S29)))
  | 0, _, _, _, _ => none
  | k + 1, x0, x1, x5, x6 => if x6 < (x0.length : Int) then (if 0 ≤ x6 then ((tollref05_Same.f k ((rd_T29 x0 x6).f0) x1).bind fun t142 => (if t142 = true then (tollref05_Drop.l0 k x0 x1 x5 (wrap64 (x6 + 1))) else (if x5.length < 4398046511104 then (tollref05_Drop.l0 k x0 x1 (x5 ++ [(⟨(rd_T29 x0 x6).f0, (rd_T29 x0 x6).f1⟩ : S29)]) (wrap64 (x6 + 1))) else (none)))) else (none)) else (some x5)
def tollref05_Drop.f (k : Nat) (l0 : List (S29)) (a1 : ByteArray) : Option ((List (S29))) := tollref05_Drop.l0 k l0 a1 ([] : List (S29)) 0
theorem tollref05_Drop.mono_l : ∀ k, (∀ y0 y1 y2 y3, LeO (tollref05_Drop.l0 k y0 y1 y2 y3) (tollref05_Drop.l0 (k + 1) y0 y1 y2 y3))
  | 0 => fun _ _ _ _ r h => by simp [tollref05_Drop.l0] at h
  | k + 1 => by
    have ih0 := tollref05_Drop.mono_l k
    · intro y0 y1 y2 y3
      unfold tollref05_Drop.l0
      repeat' first
      | (with_reducible exact ih0 _ _ _ _)
      | (with_reducible exact tollref05_Same.mono _ _ _)
      | (with_reducible exact LeO.refl _)
      | (with_reducible exact LeO.none _)
      | (with_reducible refine LeO.ite ?_ ?_)
      | (with_reducible refine LeO.bind ?_ (fun _ => ?_))
      | exact ih0 _ _ _ _
      | exact tollref05_Same.mono _ _ _
      | exact LeO.none _
      | refine LeO.ite ?_ ?_
      | refine LeO.bind ?_ (fun _ => ?_)
theorem tollref05_Drop.mono : ∀ a0 a1 k, LeO (tollref05_Drop.f k a0 a1) (tollref05_Drop.f (k + 1) a0 a1) := by
  intro a0 a1 k
  have ih0 := tollref05_Drop.mono_l k
  unfold tollref05_Drop.f
  repeat' first
      | (with_reducible exact ih0 _ _ _ _)
      | (with_reducible exact tollref05_Same.mono _ _ _)
      | (with_reducible exact LeO.refl _)
      | (with_reducible exact LeO.none _)
      | (with_reducible refine LeO.ite ?_ ?_)
      | (with_reducible refine LeO.bind ?_ (fun _ => ?_))
      | exact ih0 _ _ _ _
      | exact tollref05_Same.mono _ _ _
      | exact LeO.none _
      | refine LeO.ite ?_ ?_
      | refine LeO.bind ?_ (fun _ => ?_)
set_option maxHeartbeats 8000000 in
set_option maxRecDepth 100000 in
theorem tollref05_Drop.calls (k : Nat) (A0 : Option Addr) (c0 : Nat) (l0 : List (S29)) (a1 : ByteArray) (r : List (S29)) (w : World) (hr0 : Kd.C k29 w A0 l0.length l0) (hc0 : l0.length ≤ c0) (h : tollref05_Drop.f k l0 a1 = some r) :
    Calls Try.prog 15 #[.slice A0 l0.length c0, .string a1] w fun e w' => ∃ v0_ : Value, e = .returned (v0_) ∧ Kd.R k29 29 w' w.heap.size (fun _ => True) v0_ r ∧ Below w.heap.size w w' := by
  have hu29 := Try.underlying29
  have HR0 := Aside0.mk hr0
  have HC0 := Aside0.mk hc0
  clear hr0 hc0
  have HB := Aside0.mk (Below.refl w.heap.size w)
  have H : (tollref05_Drop.l0 k l0 a1 ([] : List (S29)) 0) = some r := h
  clear h
  have H' := Aside0.mk H
  clear H
  go_enter Try.func15, Try.ntmps15
  go_wp2
  go_loopg [5, 6] k (fun kq v5 v6 w' => ∃ (x5_1 : List (S29)) (x6_1 : Int), v6 = .int .i64 x6_1 ∧ Aside0 (tollref05_Drop.l0 kq l0 a1 x5_1 x6_1 = some r) ∧ Aside0 (kq ≤ k) ∧ Aside0 (Kd.R k29 29 w' w.heap.size (fun _ => True) v5 x5_1) ∧ Aside0 (Below w.heap.size w w'))
  case atStart => exact ⟨(([] : List (S29))), (0), (by first | rfl | (simp; done) | (simp [*]; done)), H', ⟨Nat.le_refl _⟩, ⟨by first | exact Kd.R_nil _ _ _ _ _ | exact Kd.N_nil _ _ _ _ _ | exact Kd.V_nil _ _ _ _ _ | exact Kd.Q_nil _ _ _ _ _ | exact Kd.S_nil _ _ _ _ _⟩, ⟨by repeat (first | (with_reducible first | exact HB.out | apply below_alloc | apply pw_below_drewN | apply below_drew1) | exact HB.out)⟩⟩
  case round =>
    clear H'
    try clear c1
    try clear p2
    obtain ⟨x5_1, x6_1, rfl, HA, HK1, HO_5, HB⟩ := hrel
    cases gk with
    | zero => exact absurd HA.out (by simp [tollref05_Drop.l0])
    | succ k1 =>
      have H := HA.out
      clear HA
      simp only [tollref05_Drop.l0] at H
      by_cases c3 : x6_1 < (l0.length : Int)
      · rw [if_pos c3] at H
        have c3b0 : decide (x6_1 < (l0.length : Int)) = true := decide_eq_true c3
        clear c3
        by_cases c4 : 0 ≤ x6_1
        · rw [if_pos c4] at H
          have c4b0 : decide (0 ≤ x6_1) = true := decide_eq_true c4
          clear c4
          replace H := Option.bind_eq_some_iff.mp H
          obtain ⟨t142, A50, H⟩ := H
          replace H : (if t142 = true then (tollref05_Drop.l0 k1 l0 a1 x5_1 (wrap64 (x6_1 + 1))) else (if x5_1.length < 4398046511104 then (tollref05_Drop.l0 k1 l0 a1 (x5_1 ++ [(⟨(rd_T29 l0 x6_1).f0, (rd_T29 l0 x6_1).f1⟩ : S29)]) (wrap64 (x6_1 + 1))) else (none))) = some r := H
          have A5 := Aside0.mk A50
          clear A50
          by_cases c6 : t142 = true
          · subst c6
            have H1 : (tollref05_Drop.l0 k1 l0 a1 x5_1 (wrap64 (x6_1 + 1))) = some r := by rw [if_pos rfl] at H; exact H
            clear H
            have H := H1
            clear H1
            have H' := Aside0.mk H
            clear H
            have p141 : 0 ≤ (x6_1 : Int) := of_decide_eq_true (by first | (with_reducible assumption) | assumption)
            have q141 : x6_1 < (l0.length : Int) := of_decide_eq_true (by first | (with_reducible assumption) | assumption)
            obtain ⟨ad141, e141, hx141_0, hx141_1⟩ := at_T29 HR0.out x6_1 p141 q141
            cases e141
            replace hx141_0 := (HB.out.cell (World.block_lt_of_cell? w _ hx141_0)).trans hx141_0
            replace hx141_1 := (HB.out.cell (World.block_lt_of_cell? w _ hx141_1)).trans hx141_1
            replace p141 := eq_true p141
            replace q141 := eq_true q141
            go_wp2_with (first | ((with_reducible refine gate_callee (f := 26) rfl ?_); refine goesL_ (some 19) rfl rfl Try.func26 (by kernel_rfl) rfl #[.string ((rd_T29 l0 x6_1).f0), .string a1] rfl (by (try simp only [List.map_toArray, List.map_cons, List.map_nil]); first | done | rfl | (simp only [List.length_drop, List.length_take]; rfl)) ?_; (with_reducible refine (tollref05_Same.calls k1 ((rd_T29 l0 x6_1).f0) a1 true _ A5.out).mono ?_); rintro e w7 ⟨rfl, hb⟩; refine ⟨_, rfl, ?_⟩; have n0_ := Aside0.mk (Kd.R_below (by (with_reducible repeat (first | apply Kd.R_alloc | apply Kd.R_drewN | apply Kd.R_drew)); exact HO_5.out) hb); have n1_ := Aside0.mk (below_step (by repeat (first | (with_reducible first | exact HB.out | apply below_alloc | apply pw_below_drewN | apply below_drew1) | exact HB.out)) hb); clear HO_5; clear HB; have HO_5 := n0_; have HB := n1_; clear n0_ n1_; (try clear hb); (try clear hb2); (try clear hk); (try clear hi)))
            go_roundg k1
            case measure => have := HK1.out; omega
            case rel => exact ⟨(x5_1), (wrap64 (x6_1 + 1)), (by first | rfl | (simp; done) | (simp [*]; done)), H', ⟨by have := HK1.out; omega⟩, ⟨by (with_reducible repeat (first | apply Kd.R_alloc | apply Kd.R_drewN | apply Kd.R_drew)); exact HO_5.out⟩, ⟨by repeat (first | (with_reducible first | exact HB.out | apply below_alloc | apply pw_below_drewN | apply below_drew1) | exact HB.out)⟩⟩
          · replace c6 := Bool.eq_false_iff.mpr c6
            subst c6
            have H1 : (if x5_1.length < 4398046511104 then (tollref05_Drop.l0 k1 l0 a1 (x5_1 ++ [(⟨(rd_T29 l0 x6_1).f0, (rd_T29 l0 x6_1).f1⟩ : S29)]) (wrap64 (x6_1 + 1))) else (none)) = some r := by rw [if_neg (show ¬ (false = true) by decide)] at H; exact H
            clear H
            have H := H1
            clear H1
            by_cases c8 : x5_1.length < 4398046511104
            · rw [if_pos c8] at H
              have LMc8 := Aside0.mk c8
              clear c8
              obtain ⟨y144, hy144⟩ : ∃ y_ : List (S29), y_ = (x5_1 ++ [(⟨(rd_T29 l0 x6_1).f0, (rd_T29 l0 x6_1).f1⟩ : S29)]) := ⟨_, rfl⟩
              replace H : (tollref05_Drop.l0 k1 l0 a1 y144 (wrap64 (x6_1 + 1))) = some r := by first | (rw [hy144]; with_reducible exact H) | (have H2_ := (Option.bind_some _ _).symm.trans H; rw [hy144]; with_reducible exact H2_) | (have H2_ := (Option.bind_some _ _).symm.trans H; with_reducible exact H2_) | with_reducible exact H | (rw [hy144]; exact H) | exact H
              have Ny144 := Aside0.mk hy144
              clear hy144
              have H' := Aside0.mk H
              clear H
              have p141 : 0 ≤ (x6_1 : Int) := of_decide_eq_true (by first | (with_reducible assumption) | assumption)
              have q141 : x6_1 < (l0.length : Int) := of_decide_eq_true (by first | (with_reducible assumption) | assumption)
              obtain ⟨ad141, e141, hx141_0, hx141_1⟩ := at_T29 HR0.out x6_1 p141 q141
              cases e141
              replace hx141_0 := (HB.out.cell (World.block_lt_of_cell? w _ hx141_0)).trans hx141_0
              replace hx141_1 := (HB.out.cell (World.block_lt_of_cell? w _ hx141_1)).trans hx141_1
              replace p141 := eq_true p141
              replace q141 := eq_true q141
              go_wp2_with (first | ((with_reducible refine gate_callee (f := 26) rfl ?_); refine goesL_ (some 19) rfl rfl Try.func26 (by kernel_rfl) rfl #[.string ((rd_T29 l0 x6_1).f0), .string a1] rfl (by (try simp only [List.map_toArray, List.map_cons, List.map_nil]); first | done | rfl | (simp only [List.length_drop, List.length_take]; rfl)) ?_; (with_reducible refine (tollref05_Same.calls k1 ((rd_T29 l0 x6_1).f0) a1 false _ A5.out).mono ?_); rintro e w9 ⟨rfl, hb⟩; refine ⟨_, rfl, ?_⟩; have n0_ := Aside0.mk (Kd.R_below (by (with_reducible repeat (first | apply Kd.R_alloc | apply Kd.R_drewN | apply Kd.R_drew)); exact HO_5.out) hb); have n1_ := Aside0.mk (below_step (by repeat (first | (with_reducible first | exact HB.out | apply below_alloc | apply pw_below_drewN | apply below_drew1) | exact HB.out)) hb); clear HO_5; clear HB; have HO_5 := n0_; have HB := n1_; clear n0_ n1_; (try clear hb); (try clear hb2); (try clear hk); (try clear hi); have p143 : 0 ≤ (x6_1 : Int) := of_decide_eq_true (by first | (with_reducible assumption) | assumption); have q143 : x6_1 < (l0.length : Int) := of_decide_eq_true (by first | (with_reducible assumption) | assumption); obtain ⟨ad143, e143, hx143_0, hx143_1⟩ := at_T29 HR0.out x6_1 p143 q143; obtain rfl : ad141 = ad143 := (by injection e143); replace hx143_0 := (HB.out.cell (World.block_lt_of_cell? w _ hx143_0)).trans hx143_0; replace hx143_1 := (HB.out.cell (World.block_lt_of_cell? w _ hx143_1)).trans hx143_1; replace p143 := eq_true p143; replace q143 := eq_true q143) | ((with_reducible refine gate_builtin (b := .append) (xs := #[.tmp 21, .tmp 26]) rfl ?_); at_builtin; refine Kd.R_append k29 (w0 := w) w.heap.size rfl (.tmp 21) (.tmp 26) 22 29 (.agg #[(.string ⟨#[]⟩), (.string ⟨#[]⟩)]) 32 rfl Try.underlying22 info29 rfl (by decide) (by omega) u5 x5_1 (⟨(rd_T29 l0 x6_1).f0, (rd_T29 l0 x6_1).f1⟩ : S29) [.string ((rd_T29 l0 x6_1).f0), .string ((rd_T29 l0 x6_1).f1)] (fun _ => True) (fun _ => False) rfl rfl ?aP (fun _ hk => hk.elim) ?aF ?aO ?aB ?aS ?aL ?_; (case aP => exact k29_mkM _ _ _ (⟨(rd_T29 l0 x6_1).f0, (rd_T29 l0 x6_1).f1⟩ : S29)); (case aB => exact (by repeat (first | (with_reducible first | exact HB.out | apply below_alloc | apply pw_below_drewN | apply below_drew1) | exact HB.out))); (case aF => exact (fun _ _ => trivial)); (case aO => exact (by (with_reducible repeat (first | apply Kd.R_alloc | apply Kd.R_drewN | apply Kd.R_drew)); exact HO_5.out)); (case aS => exact (below_size (by repeat (first | (with_reducible first | exact HB.out | apply below_alloc | apply pw_below_drewN | apply below_drew1) | exact HB.out)))); (case aL => have := LMc8.out; omega); intro v145 w10 ho hb hg hat; rw [← Ny144.out] at ho; have n0_ := Aside0.mk (hb); have n1_ := Aside0.mk (ho); clear HB; clear HO_5; have HB := n0_; have HO146 := n1_; clear n0_ n1_; clear ho hb hg hat))
              go_roundg k1
              case measure => have := HK1.out; omega
              case rel => exact ⟨(y144), (wrap64 (x6_1 + 1)), (by first | rfl | (simp; done) | (simp [*]; done)), H', ⟨by have := HK1.out; omega⟩, ⟨by (with_reducible repeat (first | apply Kd.R_alloc | apply Kd.R_drewN | apply Kd.R_drew)); exact HO146.out⟩, ⟨by repeat (first | (with_reducible first | exact HB.out | apply below_alloc | apply pw_below_drewN | apply below_drew1) | exact HB.out)⟩⟩
            · rw [if_neg c8] at H
              exact absurd H (by simp)
        · rw [if_neg c4] at H
          exact absurd H (by simp)
      · rw [if_neg c3] at H
        have c3b0 : decide (x6_1 < (l0.length : Int)) = false := decide_eq_false c3
        clear c3
        obtain rfl := Option.some.inj H
        go_wp2
        go_ret
        exact ⟨_, by first | rfl | (simp [errW_none, errW_some] <;> rfl) | (simp [*, errW_none, errW_some] <;> rfl), by (with_reducible repeat (first | apply Kd.R_alloc | apply Kd.R_drewN | apply Kd.R_drew)); exact HO_5.out, by repeat (first | (with_reducible first | exact HB.out | apply below_alloc | apply pw_below_drewN | apply below_drew1) | exact HB.out)⟩

-- NOT PRINTED: function 30 (pairs_Holds_1)

-- function 31: told where it is called

set_option maxHeartbeats 4000000 in
theorem plain_at : SameAt Try.prog 30 (fun a b => some (a.toList == b.toList)) := by
  intro W a b r h
  obtain rfl := Option.some.inj h
  clear h
  go_enter Try.func30, Try.ntmps30
  go_wp2
  go_ret
  exact ⟨rfl, Below.refl _ _⟩
/-! ### pairs_Holds: function 18 -/
def holdsQ (fold : Bool) : ByteArray → ByteArray → Option Bool := if fold = true then pairs_Same.f else fun a b => some (a.toList == b.toList)
def holdsX (fold : Bool) (l : List (S29)) (x : S29) : Bool := (getI (holdsQ fold) l x.f0).2 && ((getI (holdsQ fold) l x.f0).1.toList == x.f1.toList)
theorem holdsX_true (fold : Bool) (l0 l : List (S29)) (h : ∀ j (hj : j < l0.length), holdsX fold l (l0[j]'hj) = true) : l0.all (holdsX fold l) = true :=
  List.all_eq_true.2 fun x hx => by
    obtain ⟨j, hj, rfl⟩ := List.getElem_of_mem hx
    exact h j hj
theorem holdsX_false (fold : Bool) (l0 l : List (S29)) (k : Nat) (hk : k < l0.length) (h : holdsX fold l (l0[k]'hk) = false) : l0.all (holdsX fold l) = false := by
  rw [List.all_eq_false]
  exact ⟨_, List.getElem_mem hk, by rw [h]; decide⟩
def pairs_Holds.f (l0 : List (S29)) (l1 : List (S29)) (a2 : Bool) : Option (Bool) := if (l0.all fun x => qAll (holdsQ a2) l1 x.f0) = true then some (l0.all (holdsX a2 l1)) else none
set_option maxHeartbeats 8000000 in
set_option maxRecDepth 100000 in
theorem pairs_Holds.calls (A0 : Option Addr) (c0 : Nat) (l0 : List (S29)) (A1 : Option Addr) (c1 : Nat) (l1 : List (S29)) (a2 : Bool) (r : Bool) (w : World) (hr0 : Kd.C k29 w A0 l0.length l0) (hc0 : l0.length ≤ c0) (hr1 : Kd.C k29 w A1 l1.length l1) (hc1 : l1.length ≤ c1) (h : pairs_Holds.f l0 l1 a2 = some r) :
    Calls Try.prog 18 #[.slice A0 l0.length c0, .slice A1 l1.length c1, .bool a2] w fun e w' => e = .returned (.bool r) ∧ Below w.heap.size w w' := by
  have hall : (l0.all fun x => qAll (holdsQ a2) l1 x.f0) = true := by
    by_cases hx : (l0.all fun x => qAll (holdsQ a2) l1 x.f0) = true
    · exact hx
    · rw [pairs_Holds.f, if_neg hx] at h; cases h
  rw [pairs_Holds.f, if_pos hall] at h
  have HR0 := Aside0.mk hr0
  have HR1 := Aside0.mk hr1
  have HA := Aside0.mk hall
  have H := Aside0.mk (Option.some.inj h)
  have hmx := hr0.2.1
  have e20 : ∀ args W, (callFunc 20 args).run Try.prog W = .ok (.enter 20 args) W := enters_of Try.func20 (by kernel_rfl) rfl
  have e30 : ∀ args W, (callFunc 30 args).run Try.prog W = .ok (.enter 30 args) W := enters_of Try.func30 (by kernel_rfl) rfl
  have E20 := Aside0.mk e20
  have E30 := Aside0.mk e30
  clear h hall hr0 hr1 hc0 hc1 e20 e30
  cases a2 with
  | true =>
    have hsame : SameAt Try.prog 20 (holdsQ true) := same_at
    have HSM := Aside0.mk hsame
    clear hsame
    go_enter Try.func18, Try.ntmps18
    go_wp2_with ((with_reducible refine gate_dst (N := 7) rfl ?_); refine box_event ?hg (N := 7) ?hd (cs := #[.nilFunc]) (t := 46) ?hr ?_; (case hd => rfl); (case hg => rfl); (case hr => first | (go_simp; done) | (go_simp; rfl)); intro gb hg w9 hbox hb; have hc0 : w9.cell? ⟨gb, 0, none⟩ = some .nilFunc := (blk_cell hbox 0).trans rfl; have hf0 := blk_frozen hbox 0; have HX := Aside0.mk hbox; have HB := Aside0.mk hb; have HG := Aside0.mk hg; clear hbox hb hg)
    have HL := Aside0.mk (show w.heap.size ≤ gb by rw [HG.out]; exact Nat.le_refl _)
    have hfb : ((w9.setCell ⟨gb, 0, none⟩ (.func (.func 30) #[] #[])).setCell ⟨gb, 0, none⟩ (.func (.func 20) #[] #[])).heap[gb]? = some (.cells #[.func (.func 20) #[] #[]] 46 (0, 0)) := by
      exact blk_put (cs := #[.func (.func 30) #[] #[]]) (blk_put (cs := #[.nilFunc]) HX.out 0 _ rfl) 0 _ rfl
    have hbl : Below w.heap.size w ((w9.setCell ⟨gb, 0, none⟩ (.func (.func 30) #[] #[])).setCell ⟨gb, 0, none⟩ (.func (.func 20) #[] #[])) := by
      exact below_set (below_set HB.out HL.out) HL.out
    clear HX HB HG hc0 hf0
    generalize ((w9.setCell ⟨gb, 0, none⟩ (.func (.func 30) #[] #[])).setCell ⟨gb, 0, none⟩ (.func (.func 20) #[] #[])) = W0 at hfb hbl ⊢
    have HFB := Aside0.mk hfb
    have HBL := Aside0.mk hbl
    clear hfb hbl
    go_loopg [17] l0.length (fun gg s17 wr => ∃ kk : Nat, kk ≤ l0.length ∧ l0.length - kk ≤ gg ∧ s17 = .int .i64 kk ∧ Aside0 (Below w.heap.size w wr) ∧ Aside0 (wr.heap[gb]? = some (.cells #[.func (.func 20) #[] #[]] 46 (0, 0))) ∧ Aside0 (∀ j : Nat, j < kk → holdsX true l1 (rd_T29 l0 j) = true))
    case atStart => exact ⟨0, Nat.zero_le _, by omega, rfl, HBL, HFB, ⟨fun j hj => absurd hj (Nat.not_lt_zero _)⟩⟩
    case round =>
      clear HBL HFB
      obtain ⟨kk, hkk, hg, rfl, BW, FB, AL⟩ := hrel
      by_cases hlt : kk < l0.length
      · have p1 : (0 : Int) ≤ (kk : Int) := by omega
        have q1 : (kk : Int) < (l0.length : Int) := by omega
        obtain ⟨ad, ea, hx_0, hx_1⟩ := at_T29 HR0.out (kk : Int) p1 q1
        cases ea
        replace hx_0 := (BW.out.cell (World.block_lt_of_cell? w _ hx_0)).trans hx_0
        replace hx_1 := (BW.out.cell (World.block_lt_of_cell? w _ hx_1)).trans hx_1
        have hmem : rd_T29 l0 (kk : Int) ∈ l0 := by
          unfold rd_T29
          rw [Int.toNat_natCast, getD_at _ _ hlt]
          exact List.getElem_mem hlt
        have hqa := List.all_eq_true.1 HA.out _ hmem
        clear hmem
        simp only [Int.toNat_natCast] at hx_0 hx_1
        have hX : holdsX true l1 (rd_T29 l0 (kk : Int)) = ((getI (holdsQ true) l1 (rd_T29 l0 (kk : Int)).f0).2 && ((getI (holdsQ true) l1 (rd_T29 l0 (kk : Int)).f0).1.toList == (rd_T29 l0 (kk : Int)).f1.toList)) := rfl
        have hcall := fun W hW => finder_get.calls 20 (holdsQ true) HSM.out E20.out A1 c1 l1 (rd_T29 l0 (kk : Int)).f0 W hW hqa
        clear hqa
        generalize hy : rd_T29 l0 (kk : Int) = y at *
        have HY := Aside0.mk hy
        clear hy
        generalize (getI (holdsQ true) l1 y.f0).1 = gv at *
        generalize (getI (holdsQ true) l1 y.f0).2 = gi at *
        have HC := Aside0.mk hcall
        have HX := Aside0.mk hX
        clear hcall hX
        replace p1 := eq_true p1
        replace q1 := eq_true q1
        have hfc : wr.cell? ⟨gb, 0, none⟩ = some (.func (.func 20) #[] #[]) := (blk_cell FB.out 0).trans rfl
        have hgl : gb < wr.heap.size := blk_lt FB.out
        by_cases hgi : gi = true
        · subst hgi
          by_cases hv : gv.toList = y.f1.toList
          · have hv1 : (gv.toList != y.f1.toList) = false := bne_eq_false_iff_eq.mpr hv
            have hv2 : (gv.toList == y.f1.toList) = true := beq_iff_eq.mpr hv
            have HV := Aside0.mk hv
            clear hv
            go_wp2_with (go_at_call 31; refine (HC.out _ (by exact Kd.C_alloc (Kd.C_below HR1.out BW.out) _)).mono ?_; rintro e w' ⟨rfl, hb'⟩; have BW3 := Aside0.mk ((BW.out.alloc BW.out.size _).trans (hb'.mono (by have := BW.out.size; simp; omega))); have FB3 := Aside0.mk (blk_below (blk_below FB.out ((Below.refl _ wr).alloc (Nat.le_refl _) _)) hb'); have hp1 : w'.cell? ⟨wr.heap.size, 1, none⟩ = some (.string y.f1) := (hb'.cell (p := ⟨wr.heap.size, 1, none⟩) (by simp)).trans (by simp [World.cell?_alloc_new]); clear hb')
            go_roundg (l0.length - (kk + 1))
            case measure => omega
            case rel =>
              refine ⟨kk + 1, by omega, by omega, by go_num, BW3, FB3, ⟨fun j hj => ?_⟩⟩
              by_cases e : j = kk
              · subst e
                rw [HY.out, HX.out, HV.out]; simp
              · exact AL.out j (by omega)
          · have hv1 : (gv.toList != y.f1.toList) = true := bne_iff_ne.mpr hv
            have hv2 : (gv.toList == y.f1.toList) = false := beq_eq_false_iff_ne.mpr hv
            have HV := Aside0.mk hv2
            clear hv
            go_wp2_with (go_at_call 31; refine (HC.out _ (by exact Kd.C_alloc (Kd.C_below HR1.out BW.out) _)).mono ?_; rintro e w' ⟨rfl, hb'⟩; have BW3 := Aside0.mk ((BW.out.alloc BW.out.size _).trans (hb'.mono (by have := BW.out.size; simp; omega))); have FB3 := Aside0.mk (blk_below (blk_below FB.out ((Below.refl _ wr).alloc (Nat.le_refl _) _)) hb'); have hp1 : w'.cell? ⟨wr.heap.size, 1, none⟩ = some (.string y.f1) := (hb'.cell (p := ⟨wr.heap.size, 1, none⟩) (by simp)).trans (by simp [World.cell?_alloc_new]); clear hb')
            go_ret
            refine ⟨?_, BW3.out⟩
            rw [show r = false from by rw [← H.out]; exact holdsX_false _ _ _ kk hlt (by have := HX.out; rw [HV.out, ← HY.out] at this; unfold rd_T29 at this; rw [Int.toNat_natCast, getD_at _ _ hlt] at this; rw [this]; rfl)]
            rfl
        · obtain rfl : gi = false := by simpa using hgi
          clear hgi
          go_wp2_with (go_at_call 31; refine (HC.out _ (by exact Kd.C_alloc (Kd.C_below HR1.out BW.out) _)).mono ?_; rintro e w' ⟨rfl, hb'⟩; have BW3 := Aside0.mk ((BW.out.alloc BW.out.size _).trans (hb'.mono (by have := BW.out.size; simp; omega))); have FB3 := Aside0.mk (blk_below (blk_below FB.out ((Below.refl _ wr).alloc (Nat.le_refl _) _)) hb'); have hp1 : w'.cell? ⟨wr.heap.size, 1, none⟩ = some (.string y.f1) := (hb'.cell (p := ⟨wr.heap.size, 1, none⟩) (by simp)).trans (by simp [World.cell?_alloc_new]); clear hb')
          go_ret
          refine ⟨?_, BW3.out⟩
          rw [show r = false from by rw [← H.out]; exact holdsX_false _ _ _ kk hlt (by have := HX.out; rw [← HY.out] at this; unfold rd_T29 at this; rw [Int.toNat_natCast, getD_at _ _ hlt] at this; rw [this]; rfl)]
          rfl
      · have q1 : ¬ (kk : Int) < (l0.length : Int) := by omega
        obtain rfl : kk = l0.length := by omega
        go_wp2
        go_ret
        refine ⟨?_, BW.out⟩
        rw [show r = true from by rw [← H.out]; exact holdsX_true _ _ _ (fun j hj => by have := AL.out j hj; unfold rd_T29 at this; rwa [Int.toNat_natCast, getD_at _ _ hj] at this)]
        rfl
  | false =>
    have hsame : SameAt Try.prog 30 (holdsQ false) := plain_at
    have HSM := Aside0.mk hsame
    clear hsame
    go_enter Try.func18, Try.ntmps18
    go_wp2_with ((with_reducible refine gate_dst (N := 7) rfl ?_); refine box_event ?hg (N := 7) ?hd (cs := #[.nilFunc]) (t := 46) ?hr ?_; (case hd => rfl); (case hg => rfl); (case hr => first | (go_simp; done) | (go_simp; rfl)); intro gb hg w9 hbox hb; have hc0 : w9.cell? ⟨gb, 0, none⟩ = some .nilFunc := (blk_cell hbox 0).trans rfl; have hf0 := blk_frozen hbox 0; have HX := Aside0.mk hbox; have HB := Aside0.mk hb; have HG := Aside0.mk hg; clear hbox hb hg)
    have HL := Aside0.mk (show w.heap.size ≤ gb by rw [HG.out]; exact Nat.le_refl _)
    have hfb : (w9.setCell ⟨gb, 0, none⟩ (.func (.func 30) #[] #[])).heap[gb]? = some (.cells #[.func (.func 30) #[] #[]] 46 (0, 0)) := by
      exact blk_put (cs := #[.nilFunc]) HX.out 0 _ rfl
    have hbl : Below w.heap.size w (w9.setCell ⟨gb, 0, none⟩ (.func (.func 30) #[] #[])) := by
      exact below_set HB.out HL.out
    clear HX HB HG hc0 hf0
    generalize (w9.setCell ⟨gb, 0, none⟩ (.func (.func 30) #[] #[])) = W0 at hfb hbl ⊢
    have HFB := Aside0.mk hfb
    have HBL := Aside0.mk hbl
    clear hfb hbl
    go_loopg [17] l0.length (fun gg s17 wr => ∃ kk : Nat, kk ≤ l0.length ∧ l0.length - kk ≤ gg ∧ s17 = .int .i64 kk ∧ Aside0 (Below w.heap.size w wr) ∧ Aside0 (wr.heap[gb]? = some (.cells #[.func (.func 30) #[] #[]] 46 (0, 0))) ∧ Aside0 (∀ j : Nat, j < kk → holdsX false l1 (rd_T29 l0 j) = true))
    case atStart => exact ⟨0, Nat.zero_le _, by omega, rfl, HBL, HFB, ⟨fun j hj => absurd hj (Nat.not_lt_zero _)⟩⟩
    case round =>
      clear HBL HFB
      obtain ⟨kk, hkk, hg, rfl, BW, FB, AL⟩ := hrel
      by_cases hlt : kk < l0.length
      · have p1 : (0 : Int) ≤ (kk : Int) := by omega
        have q1 : (kk : Int) < (l0.length : Int) := by omega
        obtain ⟨ad, ea, hx_0, hx_1⟩ := at_T29 HR0.out (kk : Int) p1 q1
        cases ea
        replace hx_0 := (BW.out.cell (World.block_lt_of_cell? w _ hx_0)).trans hx_0
        replace hx_1 := (BW.out.cell (World.block_lt_of_cell? w _ hx_1)).trans hx_1
        have hmem : rd_T29 l0 (kk : Int) ∈ l0 := by
          unfold rd_T29
          rw [Int.toNat_natCast, getD_at _ _ hlt]
          exact List.getElem_mem hlt
        have hqa := List.all_eq_true.1 HA.out _ hmem
        clear hmem
        simp only [Int.toNat_natCast] at hx_0 hx_1
        have hX : holdsX false l1 (rd_T29 l0 (kk : Int)) = ((getI (holdsQ false) l1 (rd_T29 l0 (kk : Int)).f0).2 && ((getI (holdsQ false) l1 (rd_T29 l0 (kk : Int)).f0).1.toList == (rd_T29 l0 (kk : Int)).f1.toList)) := rfl
        have hcall := fun W hW => finder_get.calls 30 (holdsQ false) HSM.out E30.out A1 c1 l1 (rd_T29 l0 (kk : Int)).f0 W hW hqa
        clear hqa
        generalize hy : rd_T29 l0 (kk : Int) = y at *
        have HY := Aside0.mk hy
        clear hy
        generalize (getI (holdsQ false) l1 y.f0).1 = gv at *
        generalize (getI (holdsQ false) l1 y.f0).2 = gi at *
        have HC := Aside0.mk hcall
        have HX := Aside0.mk hX
        clear hcall hX
        replace p1 := eq_true p1
        replace q1 := eq_true q1
        have hfc : wr.cell? ⟨gb, 0, none⟩ = some (.func (.func 30) #[] #[]) := (blk_cell FB.out 0).trans rfl
        have hgl : gb < wr.heap.size := blk_lt FB.out
        by_cases hgi : gi = true
        · subst hgi
          by_cases hv : gv.toList = y.f1.toList
          · have hv1 : (gv.toList != y.f1.toList) = false := bne_eq_false_iff_eq.mpr hv
            have hv2 : (gv.toList == y.f1.toList) = true := beq_iff_eq.mpr hv
            have HV := Aside0.mk hv
            clear hv
            go_wp2_with (go_at_call 31; refine (HC.out _ (by exact Kd.C_alloc (Kd.C_below HR1.out BW.out) _)).mono ?_; rintro e w' ⟨rfl, hb'⟩; have BW3 := Aside0.mk ((BW.out.alloc BW.out.size _).trans (hb'.mono (by have := BW.out.size; simp; omega))); have FB3 := Aside0.mk (blk_below (blk_below FB.out ((Below.refl _ wr).alloc (Nat.le_refl _) _)) hb'); have hp1 : w'.cell? ⟨wr.heap.size, 1, none⟩ = some (.string y.f1) := (hb'.cell (p := ⟨wr.heap.size, 1, none⟩) (by simp)).trans (by simp [World.cell?_alloc_new]); clear hb')
            go_roundg (l0.length - (kk + 1))
            case measure => omega
            case rel =>
              refine ⟨kk + 1, by omega, by omega, by go_num, BW3, FB3, ⟨fun j hj => ?_⟩⟩
              by_cases e : j = kk
              · subst e
                rw [HY.out, HX.out, HV.out]; simp
              · exact AL.out j (by omega)
          · have hv1 : (gv.toList != y.f1.toList) = true := bne_iff_ne.mpr hv
            have hv2 : (gv.toList == y.f1.toList) = false := beq_eq_false_iff_ne.mpr hv
            have HV := Aside0.mk hv2
            clear hv
            go_wp2_with (go_at_call 31; refine (HC.out _ (by exact Kd.C_alloc (Kd.C_below HR1.out BW.out) _)).mono ?_; rintro e w' ⟨rfl, hb'⟩; have BW3 := Aside0.mk ((BW.out.alloc BW.out.size _).trans (hb'.mono (by have := BW.out.size; simp; omega))); have FB3 := Aside0.mk (blk_below (blk_below FB.out ((Below.refl _ wr).alloc (Nat.le_refl _) _)) hb'); have hp1 : w'.cell? ⟨wr.heap.size, 1, none⟩ = some (.string y.f1) := (hb'.cell (p := ⟨wr.heap.size, 1, none⟩) (by simp)).trans (by simp [World.cell?_alloc_new]); clear hb')
            go_ret
            refine ⟨?_, BW3.out⟩
            rw [show r = false from by rw [← H.out]; exact holdsX_false _ _ _ kk hlt (by have := HX.out; rw [HV.out, ← HY.out] at this; unfold rd_T29 at this; rw [Int.toNat_natCast, getD_at _ _ hlt] at this; rw [this]; rfl)]
            rfl
        · obtain rfl : gi = false := by simpa using hgi
          clear hgi
          go_wp2_with (go_at_call 31; refine (HC.out _ (by exact Kd.C_alloc (Kd.C_below HR1.out BW.out) _)).mono ?_; rintro e w' ⟨rfl, hb'⟩; have BW3 := Aside0.mk ((BW.out.alloc BW.out.size _).trans (hb'.mono (by have := BW.out.size; simp; omega))); have FB3 := Aside0.mk (blk_below (blk_below FB.out ((Below.refl _ wr).alloc (Nat.le_refl _) _)) hb'); have hp1 : w'.cell? ⟨wr.heap.size, 1, none⟩ = some (.string y.f1) := (hb'.cell (p := ⟨wr.heap.size, 1, none⟩) (by simp)).trans (by simp [World.cell?_alloc_new]); clear hb')
          go_ret
          refine ⟨?_, BW3.out⟩
          rw [show r = false from by rw [← H.out]; exact holdsX_false _ _ _ kk hlt (by have := HX.out; rw [← HY.out] at this; unfold rd_T29 at this; rw [Int.toNat_natCast, getD_at _ _ hlt] at this; rw [this]; rfl)]
          rfl
      · have q1 : ¬ (kk : Int) < (l0.length : Int) := by omega
        obtain rfl : kk = l0.length := by omega
        go_wp2
        go_ret
        refine ⟨?_, BW.out⟩
        rw [show r = true from by rw [← H.out]; exact holdsX_true _ _ _ (fun j hj => by have := AL.out j hj; unfold rd_T29 at this; rwa [Int.toNat_natCast, getD_at _ _ hj] at this)]
        rfl

/-! ### pairs_Get: function 21 -/
def pairs_Get.f (l0 : List (S29)) (a1 : ByteArray) : Option (ByteArray × Bool) := if qAll pairs_Same.f l0 a1 = true then some (getI pairs_Same.f l0 a1) else none
set_option maxHeartbeats 8000000 in
set_option maxRecDepth 100000 in
theorem pairs_Get.calls (A0 : Option Addr) (c0 : Nat) (l0 : List (S29)) (a1 : ByteArray) (r1 : ByteArray) (r2 : Bool) (w : World) (hr0 : Kd.C k29 w A0 l0.length l0) (hc0 : l0.length ≤ c0) (h : pairs_Get.f l0 a1 = some (r1, r2)) :
    Calls Try.prog 21 #[.slice A0 l0.length c0, .string a1] w fun e w' => e = .returned (.tuple #[.string r1, .bool r2]) ∧ Below w.heap.size w w' := by
  have hq : qAll pairs_Same.f l0 a1 = true := by
    by_cases hx : qAll pairs_Same.f l0 a1 = true
    · exact hx
    · rw [pairs_Get.f, if_neg hx] at h; cases h
  rw [pairs_Get.f, if_pos hq] at h
  have eg : ∀ args W, (callFunc 20 args).run Try.prog W = .ok (.enter 20 args) W := enters_of Try.func20 (by kernel_rfl) rfl
  have hcall := finder_get.calls 20 pairs_Same.f same_at eg A0 c0 l0 a1 w hr0 hq
  rw [Option.some.inj h] at hcall
  have HC := Aside0.mk hcall
  clear h hq hcall eg hr0 hc0
  go_enter Try.func21, Try.ntmps21
  go_wp2_with (go_at_call 31; refine HC.out.mono ?_; rintro e w' ⟨rfl, hb'⟩; have HB' := Aside0.mk hb'; clear hb')
  go_ret2
  exact ⟨rfl, HB'.out⟩

end Go.Proofs.Ytnldeohdojemlaa.P
