-- written by wip/tool/hprint.py of this repo: the kit's print, with contracts by hand joined; Lean checks it.
import Derived.Test.YtjfjmniegceejaaDoorPx0
import Derived.Test.YtjfjmniegceejaaDoorPx3
import Derived.Test.YtjfjmniegceejaaDoorPx4
import Derived.Test.YtjfjmniegceejaaDoorPx5
import Derived.Test.YtjfjmniegceejaaDoorPx6
namespace Go.Proofs.YtjfjmniegceejaaDoor.P
open Go.RowKit Go.Proofs.YtjfjmniegceejaaDoorW.PrintWords Go.Proofs.YtjfjmniegceejaaDoorW.PrintLast Go.Proofs.YtjfjmniegceejaaDoorW.PrintMore
attribute [local go_sem] max2_int min2_int max_two min_two max_three min_three max_four min_four   -- for this text's walks alone
set_option linter.unusedVariables false
set_option linter.unusedSimpArgs false

/-! ### stringslite_TrimSuffix: function 51 -/
def stringslite_TrimSuffix.f (a0 : ByteArray) (a1 : ByteArray) : Option (ByteArray) := (stringslite_HasSuffix.f a0 a1).bind fun t162 => (if t162 = true then (if 0 ≤ (wrap64 ((a0.size : Int) - (a1.size : Int))) then (if (wrap64 ((a0.size : Int) - (a1.size : Int))) ≤ (a0.size : Int) then (some (a0.extract 0 ((wrap64 ((a0.size : Int) - (a1.size : Int))) : Int).toNat)) else (none)) else (none)) else (some a0))
set_option maxHeartbeats 8000000 in
set_option maxRecDepth 100000 in
theorem stringslite_TrimSuffix.calls (a0 : ByteArray) (a1 : ByteArray) (r : ByteArray) (w : World) (h : stringslite_TrimSuffix.f a0 a1 = some r) :
    Calls Tryd.prog 51 #[.string a0, .string a1] w fun e w' => e = .returned (.string r) ∧ Drawn0 w w' := by
  have H : ((stringslite_HasSuffix.f a0 a1).bind fun t162 => (if t162 = true then (if 0 ≤ (wrap64 ((a0.size : Int) - (a1.size : Int))) then (if (wrap64 ((a0.size : Int) - (a1.size : Int))) ≤ (a0.size : Int) then (some (a0.extract 0 ((wrap64 ((a0.size : Int) - (a1.size : Int))) : Int).toNat)) else (none)) else (none)) else (some a0))) = some r := h
  clear h
  replace H := Option.bind_eq_some_iff.mp H
  obtain ⟨t162, A30, H⟩ := H
  replace H : (if t162 = true then (if 0 ≤ (wrap64 ((a0.size : Int) - (a1.size : Int))) then (if (wrap64 ((a0.size : Int) - (a1.size : Int))) ≤ (a0.size : Int) then (some (a0.extract 0 ((wrap64 ((a0.size : Int) - (a1.size : Int))) : Int).toNat)) else (none)) else (none)) else (some a0)) = some r := H
  have A3 := Aside0.mk A30
  clear A30
  by_cases c4 : t162 = true
  · subst c4
    have H1 : (if 0 ≤ (wrap64 ((a0.size : Int) - (a1.size : Int))) then (if (wrap64 ((a0.size : Int) - (a1.size : Int))) ≤ (a0.size : Int) then (some (a0.extract 0 ((wrap64 ((a0.size : Int) - (a1.size : Int))) : Int).toNat)) else (none)) else (none)) = some r := by rw [if_pos rfl] at H; exact H
    clear H
    have H := H1
    clear H1
    obtain ⟨ji5, hji5⟩ : ∃ j_ : Int, (wrap64 ((a0.size : Int) - (a1.size : Int))) = j_ := ⟨_, rfl⟩
    replace H : (if 0 ≤ (ji5) then (if (ji5) ≤ (a0.size : Int) then (some (a0.extract 0 ((ji5) : Int).toNat)) else (none)) else (none)) = some r := by first | (rw [hji5] at H; exact H) | (simp only [hji5] at H ⊢; exact H)
    (try rw [hji5] at A3)
    have hji5w : (IntKind.i64.wrap ((a0.size : Int) - (a1.size : Int))) = ji5 := (i64_w _).trans hji5
    by_cases c6 : 0 ≤ (ji5)
    · rw [if_pos c6] at H
      have c6b0 := eq_true c6
      have c6b1 : decide (0 ≤ (ji5)) = true := decide_eq_true c6
      clear c6
      by_cases c7 : (ji5) ≤ (a0.size : Int)
      · rw [if_pos c7] at H
        have c7b0 := eq_true c7
        have c7b1 : decide ((ji5) ≤ (a0.size : Int)) = true := decide_eq_true c7
        clear c7
        obtain rfl := Option.some.inj H
        go_enter Tryd.func51, Tryd.ntmps51
        go_wp2_with (first | ((with_reducible refine gate_callee (f := 60) rfl ?_); refine goesL_ (some 7) rfl rfl Tryd.func60 (by kernel_rfl) rfl #[.string a0, .string a1] rfl (by (try simp only [List.map_toArray, List.map_cons, List.map_nil]); first | done | rfl | (simp only [List.length_drop, List.length_take]; rfl)) ?_; (with_reducible refine (stringslite_HasSuffix.calls a0 a1 true _ A3.out).mono ?_); rintro e w' ⟨rfl, ⟨nd, rfl⟩⟩; refine ⟨_, rfl, ?_⟩))
        go_ret
        exact ⟨by first | rfl | (simp; done) | (simp only [← hji5] <;> (first | rfl | simp)) | (simp [*]; done), by repeat (first | exact Drawn0.refl _ | apply Drawn0.step)⟩
      · rw [if_neg c7] at H
        exact absurd H (by simp)
    · rw [if_neg c6] at H
      exact absurd H (by simp)
  · replace c4 := Bool.eq_false_iff.mpr c4
    subst c4
    have H1 : (some a0) = some r := by rw [if_neg (show ¬ (false = true) by decide)] at H; exact H
    clear H
    have H := H1
    clear H1
    obtain rfl := Option.some.inj H
    go_enter Tryd.func51, Tryd.ntmps51
    go_wp2_with (first | ((with_reducible refine gate_callee (f := 60) rfl ?_); refine goesL_ (some 7) rfl rfl Tryd.func60 (by kernel_rfl) rfl #[.string a0, .string a1] rfl (by (try simp only [List.map_toArray, List.map_cons, List.map_nil]); first | done | rfl | (simp only [List.length_drop, List.length_take]; rfl)) ?_; (with_reducible refine (stringslite_HasSuffix.calls a0 a1 false _ A3.out).mono ?_); rintro e w' ⟨rfl, ⟨nd, rfl⟩⟩; refine ⟨_, rfl, ?_⟩))
    go_ret
    exact ⟨by first | rfl | (simp; done) | (simp [*]; done) | (simp [bne_nil_isEmpty, beq_nil_isEmpty]; done) | (simp [*, bne_nil_isEmpty, beq_nil_isEmpty]; done), by repeat (first | exact Drawn0.refl _ | apply Drawn0.step)⟩

/-! ### strings_TrimSuffix: function 38 -/
def strings_TrimSuffix.f (a0 : ByteArray) (a1 : ByteArray) : Option (ByteArray) := (stringslite_TrimSuffix.f a0 a1).bind fun t163 => (some t163)
set_option maxHeartbeats 8000000 in
set_option maxRecDepth 100000 in
theorem strings_TrimSuffix.calls (a0 : ByteArray) (a1 : ByteArray) (r : ByteArray) (w : World) (h : strings_TrimSuffix.f a0 a1 = some r) :
    Calls Tryd.prog 38 #[.string a0, .string a1] w fun e w' => e = .returned (.string r) ∧ Drawn0 w w' := by
  have H : ((stringslite_TrimSuffix.f a0 a1).bind fun t163 => (some t163)) = some r := h
  clear h
  replace H := Option.bind_eq_some_iff.mp H
  obtain ⟨t163, A30, H⟩ := H
  replace H : (some t163) = some r := H
  have A3 := Aside0.mk A30
  clear A30
  obtain rfl := Option.some.inj H
  go_enter Tryd.func38, Tryd.ntmps38
  go_wp2_with (first | ((with_reducible refine gate_callee (f := 51) rfl ?_); refine goesL_ (some 7) rfl rfl Tryd.func51 (by kernel_rfl) rfl #[.string a0, .string a1] rfl (by (try simp only [List.map_toArray, List.map_cons, List.map_nil]); first | done | rfl | (simp only [List.length_drop, List.length_take]; rfl)) ?_; (with_reducible refine (stringslite_TrimSuffix.calls a0 a1 t163 _ A3.out).mono ?_); rintro e w' ⟨rfl, ⟨nd, rfl⟩⟩; refine ⟨_, rfl, ?_⟩))
  go_ret
  exact ⟨by first | rfl | (simp; done) | (simp [*]; done) | (simp [bne_nil_isEmpty, beq_nil_isEmpty]; done) | (simp [*, bne_nil_isEmpty, beq_nil_isEmpty]; done), by repeat (first | exact Drawn0.refl _ | apply Drawn0.step)⟩

/-! ### host_Of: function 19 -/
mutual
def host_Of.j0 : Nat → ByteArray → Int → Bool → Option (ByteArray × Int)
  | 0, _, _, _ => none
  | k + 1, x0, x4, x17 => if x17 = true then (if 0 ≤ x4 then (if x4 ≤ (x0.size : Int) then (host_Of.j1 k (x0.extract 0 (x4 : Int).toNat)) else (none)) else (none)) else (host_Of.j1 k x0)
def host_Of.j1 : Nat → ByteArray → Option (ByteArray × Int)
  | 0, _ => none
  | k + 1, x0 => (strings_TrimSuffix.f x0 (⟨#[46]⟩ : ByteArray)).bind fun t167 => ((dns_Name.f t167).bind fun t168 => (if t168 = true then (some (t167, 0)) else (some ((⟨#[]⟩ : ByteArray), 2))))
end
def host_Of.f (k : Nat) (a0 : ByteArray) : Option (ByteArray × Int) := (dns_Fold.f a0).bind fun t164 => ((strings_LastIndexByte.f k t164 58).bind fun t165 => (if t165 ≥ 0 then (if 0 ≤ (wrap64 (t165 + 1)) then (if (wrap64 (t165 + 1)) ≤ (t164.size : Int) then ((host_port.f (t164.extract ((wrap64 (t165 + 1)) : Int).toNat t164.size)).bind fun t166 => (host_Of.j0 k t164 t165 t166)) else (none)) else (none)) else (host_Of.j0 k t164 t165 false)))
theorem host_Of.mono_l : ∀ k, (∀ y0 y1 y2, LeO (host_Of.j0 k y0 y1 y2) (host_Of.j0 (k + 1) y0 y1 y2)) ∧ (∀ y0, LeO (host_Of.j1 k y0) (host_Of.j1 (k + 1) y0))
  | 0 => ⟨fun _ _ _ r h => by simp [host_Of.j0] at h, fun _ r h => by simp [host_Of.j1] at h⟩
  | k + 1 => by
    obtain ⟨ih0, ih1⟩ := host_Of.mono_l k
    refine ⟨?_, ?_⟩
    · intro y0 y1 y2
      unfold host_Of.j0
      repeat' first
      | (with_reducible exact ih0 _ _ _)
      | (with_reducible exact ih1 _)
      | (with_reducible exact strings_LastIndexByte.mono _ _ _)
      | (with_reducible exact LeO.refl _)
      | (with_reducible exact LeO.none _)
      | (with_reducible refine LeO.ite ?_ ?_)
      | (with_reducible refine LeO.bind ?_ (fun _ => ?_))
      | exact ih0 _ _ _
      | exact ih1 _
      | exact strings_LastIndexByte.mono _ _ _
      | exact LeO.none _
      | refine LeO.ite ?_ ?_
      | refine LeO.bind ?_ (fun _ => ?_)
    · intro y0
      unfold host_Of.j1
      repeat' first
      | (with_reducible exact ih0 _ _ _)
      | (with_reducible exact ih1 _)
      | (with_reducible exact strings_LastIndexByte.mono _ _ _)
      | (with_reducible exact LeO.refl _)
      | (with_reducible exact LeO.none _)
      | (with_reducible refine LeO.ite ?_ ?_)
      | (with_reducible refine LeO.bind ?_ (fun _ => ?_))
      | exact ih0 _ _ _
      | exact ih1 _
      | exact strings_LastIndexByte.mono _ _ _
      | exact LeO.none _
      | refine LeO.ite ?_ ?_
      | refine LeO.bind ?_ (fun _ => ?_)
theorem host_Of.mono : ∀ a0 k, LeO (host_Of.f k a0) (host_Of.f (k + 1) a0) := by
  intro a0 k
  obtain ⟨ih0, ih1⟩ := host_Of.mono_l k
  unfold host_Of.f
  repeat' first
      | (with_reducible exact ih0 _ _ _)
      | (with_reducible exact ih1 _)
      | (with_reducible exact strings_LastIndexByte.mono _ _ _)
      | (with_reducible exact LeO.refl _)
      | (with_reducible exact LeO.none _)
      | (with_reducible refine LeO.ite ?_ ?_)
      | (with_reducible refine LeO.bind ?_ (fun _ => ?_))
      | exact ih0 _ _ _
      | exact ih1 _
      | exact strings_LastIndexByte.mono _ _ _
      | exact LeO.none _
      | refine LeO.ite ?_ ?_
      | refine LeO.bind ?_ (fun _ => ?_)
set_option maxHeartbeats 8000000 in
set_option maxRecDepth 100000 in
theorem host_Of.calls (k : Nat) (a0 : ByteArray) (r1 : ByteArray) (r2 : Int) (w : World) (h : host_Of.f k a0 = some (r1, r2)) :
    Calls Tryd.prog 19 #[.string a0] w fun e w' => e = .returned (.tuple #[.string r1, .int .i64 r2]) ∧ Below w.heap.size w w' := by
  have HB := Aside0.mk (Below.refl w.heap.size w)
  have H : ((dns_Fold.f a0).bind fun t164 => ((strings_LastIndexByte.f k t164 58).bind fun t165 => (if t165 ≥ 0 then (if 0 ≤ (wrap64 (t165 + 1)) then (if (wrap64 (t165 + 1)) ≤ (t164.size : Int) then ((host_port.f (t164.extract ((wrap64 (t165 + 1)) : Int).toNat t164.size)).bind fun t166 => (host_Of.j0 k t164 t165 t166)) else (none)) else (none)) else (host_Of.j0 k t164 t165 false)))) = some (r1, r2) := h
  clear h
  replace H := Option.bind_eq_some_iff.mp H
  obtain ⟨t164, A20, H⟩ := H
  replace H : ((strings_LastIndexByte.f k t164 58).bind fun t165 => (if t165 ≥ 0 then (if 0 ≤ (wrap64 (t165 + 1)) then (if (wrap64 (t165 + 1)) ≤ (t164.size : Int) then ((host_port.f (t164.extract ((wrap64 (t165 + 1)) : Int).toNat t164.size)).bind fun t166 => (host_Of.j0 k t164 t165 t166)) else (none)) else (none)) else (host_Of.j0 k t164 t165 false))) = some (r1, r2) := H
  have A2 := Aside0.mk A20
  clear A20
  replace H := Option.bind_eq_some_iff.mp H
  obtain ⟨t165, A30, H⟩ := H
  replace H : (if t165 ≥ 0 then (if 0 ≤ (wrap64 (t165 + 1)) then (if (wrap64 (t165 + 1)) ≤ (t164.size : Int) then ((host_port.f (t164.extract ((wrap64 (t165 + 1)) : Int).toNat t164.size)).bind fun t166 => (host_Of.j0 k t164 t165 t166)) else (none)) else (none)) else (host_Of.j0 k t164 t165 false)) = some (r1, r2) := H
  have A3 := Aside0.mk A30
  clear A30
  have HC4 := Aside0.mk H
  clear H
  go_enter Tryd.func19, Tryd.ntmps19
  go_upto_region 3 with (first | ((with_reducible refine gate_callee (f := 35) rfl ?_); refine goesL_ (some 6) rfl rfl Tryd.func35 (by kernel_rfl) rfl #[.string a0] rfl (by (try simp only [List.map_toArray, List.map_cons, List.map_nil]); first | done | rfl | (simp only [List.length_drop, List.length_take]; rfl)) ?_; (with_reducible refine (dns_Fold.calls a0 t164 _ A2.out).mono ?_); rintro e w5 ⟨rfl, hb⟩; refine ⟨_, rfl, ?_⟩; have n0_ := Aside0.mk (below_step (by repeat (first | (with_reducible first | exact HB.out | apply below_alloc | apply pw_below_drewN | apply below_drew1) | exact HB.out)) hb); clear HB; have HB := n0_; clear n0_; (try clear hb); (try clear hb2); (try clear hk); (try clear hi)) | ((with_reducible refine gate_callee (f := 36) rfl ?_); refine goesL_ (some 8) rfl rfl Tryd.func36 (by kernel_rfl) rfl #[.string t164, .int .u8 58] rfl (by (try simp only [List.map_toArray, List.map_cons, List.map_nil]); first | done | rfl | (simp only [List.length_drop, List.length_take]; rfl)) ?_; (with_reducible refine (strings_LastIndexByte.calls k t164 58 t165 _ A3.out).mono ?_); rintro e w' ⟨rfl, ⟨nd, rfl⟩⟩; refine ⟨_, rfl, ?_⟩))
  (try simp only [Act.put, List.setIfInBounds_toArray, List.set_cons_zero, List.set_cons_succ])
  go_cut [17] (fun v17 wc => ∃ (kq : Nat) (x17_3 : Bool), v17 = .bool x17_3 ∧ Aside0 (host_Of.j0 kq t164 t165 x17_3 = some (r1, r2)) ∧ Aside0 (kq ≤ k) ∧ Aside0 (Below w.heap.size w wc))
  case first =>
    have H := HC4.out
    clear HC4
    by_cases c6 : t165 ≥ 0
    · rw [if_pos c6] at H
      have c6b0 : decide (0 ≤ t165) = true := decide_eq_true c6
      clear c6
      (first | rw [c6b0] | rw [c6b1] | rw [c6b2] | (simp only [i64_w, i32_w]; rw [c6b0]) | skip)
      obtain ⟨ji7, hji7⟩ : ∃ j_ : Int, (wrap64 (t165 + 1)) = j_ := ⟨_, rfl⟩
      replace H : (if 0 ≤ (ji7) then (if (ji7) ≤ (t164.size : Int) then ((host_port.f (t164.extract ((ji7) : Int).toNat t164.size)).bind fun t166 => (host_Of.j0 k t164 t165 t166)) else (none)) else (none)) = some (r1, r2) := by first | (rw [hji7] at H; exact H) | (simp only [hji7] at H ⊢; exact H)
      have hji7w : (IntKind.i64.wrap (t165 + 1)) = ji7 := (i64_w _).trans hji7
      by_cases c8 : 0 ≤ (ji7)
      · rw [if_pos c8] at H
        have c8b0 := eq_true c8
        have c8b1 : decide (0 ≤ (ji7)) = true := decide_eq_true c8
        clear c8
        by_cases c9 : (ji7) ≤ (t164.size : Int)
        · rw [if_pos c9] at H
          have c9b0 := eq_true c9
          have c9b1 : decide ((ji7) ≤ (t164.size : Int)) = true := decide_eq_true c9
          clear c9
          replace H := Option.bind_eq_some_iff.mp H
          obtain ⟨t166, A100, H⟩ := H
          replace H : (host_Of.j0 k t164 t165 t166) = some (r1, r2) := H
          have A10 := Aside0.mk A100
          clear A100
          have H' := Aside0.mk H
          clear H
          go_wp2_with (first | (go_at_call 37; (with_reducible refine (host_port.calls (t164.extract ((ji7) : Int).toNat t164.size) t166 _ A10.out).mono ?_); rintro e w11 ⟨rfl, hb⟩; have n0_ := Aside0.mk (below_step (by repeat (first | (with_reducible first | exact HB.out | apply below_alloc | apply pw_below_drewN | apply below_drew1) | exact HB.out)) hb); clear HB; have HB := n0_; clear n0_; (try clear hb); (try clear hb2); (try clear hk); (try clear hi)))
          go_meet
          case rel => exact ⟨_, (t166), (by first | rfl | (simp; done) | (simp [*]; done) | (simp [bne_nil_isEmpty, beq_nil_isEmpty]; done) | (simp [*, bne_nil_isEmpty, beq_nil_isEmpty]; done)), H', ⟨by first | omega | exact Nat.le_refl _⟩, ⟨by repeat (first | (with_reducible first | exact HB.out | apply below_alloc | apply pw_below_drewN | apply below_drew1) | exact HB.out)⟩⟩
        · rw [if_neg c9] at H
          exact absurd H (by simp)
      · rw [if_neg c8] at H
        exact absurd H (by simp)
    · rw [if_neg c6] at H
      have c6b0 : decide (0 ≤ t165) = false := decide_eq_false c6
      clear c6
      (first | rw [c6b0] | rw [c6b1] | rw [c6b2] | (simp only [i64_w, i32_w]; rw [c6b0]) | skip)
      have H' := Aside0.mk H
      clear H
      go_wp2
      go_meet
      case rel => exact ⟨_, (false), (by first | rfl | (simp; done) | (simp [*]; done) | (simp [bne_nil_isEmpty, beq_nil_isEmpty]; done) | (simp [*, bne_nil_isEmpty, beq_nil_isEmpty]; done)), H', ⟨by first | omega | exact Nat.le_refl _⟩, ⟨by repeat (first | (with_reducible first | exact HB.out | apply below_alloc | apply pw_below_drewN | apply below_drew1) | exact HB.out)⟩⟩
  case rest =>
    clear HC4
    try clear c1
    try clear p2
    try clear c3
    try clear c6
    try clear c6b0
    try clear c6b1
    try clear c6b2
    try clear p6
    try clear c8
    try clear c8b0
    try clear c8b1
    try clear c9
    try clear c9b0
    try clear c9b1
    obtain ⟨kq, x17_3, rfl, HA, HJ3, HB⟩ := hcut
    cases kq with
    | zero => exact absurd HA.out (by simp [host_Of.j0])
    | succ kj3 =>
      have H := HA.out
      clear HA
      simp only [host_Of.j0] at H
      have HC12 := Aside0.mk H
      clear H
      go_upto_if 17 with (fail)
      go_cut [0] (fun v0 wc => ∃ (kq : Nat) (x0_11 : ByteArray), v0 = .string x0_11 ∧ Aside0 (host_Of.j1 kq x0_11 = some (r1, r2)) ∧ Aside0 (kq ≤ kj3) ∧ Aside0 (Below w.heap.size w wc))
      case first =>
        have H := HC12.out
        clear HC12
        by_cases c13 : x17_3 = true
        · subst c13
          have H1 : (if 0 ≤ t165 then (if t165 ≤ (t164.size : Int) then (host_Of.j1 kj3 (t164.extract 0 (t165 : Int).toNat)) else (none)) else (none)) = some (r1, r2) := by rw [if_pos rfl] at H; exact H
          clear H
          have H := H1
          clear H1
          by_cases c14 : 0 ≤ t165
          · rw [if_pos c14] at H
            have c14b0 := eq_true c14
            have c14b1 : decide (0 ≤ t165) = true := decide_eq_true c14
            clear c14
            by_cases c15 : t165 ≤ (t164.size : Int)
            · rw [if_pos c15] at H
              have c15b0 := eq_true c15
              have c15b1 : decide (t165 ≤ (t164.size : Int)) = true := decide_eq_true c15
              clear c15
              have H' := Aside0.mk H
              clear H
              go_wp2
              go_meet
              case rel => exact ⟨_, (t164.extract 0 (t165 : Int).toNat), (by first | rfl | (simp; done) | (simp [*]; done) | (simp [bne_nil_isEmpty, beq_nil_isEmpty]; done) | (simp [*, bne_nil_isEmpty, beq_nil_isEmpty]; done)), H', ⟨by have := HJ3.out; first | omega | exact Nat.le_refl _⟩, ⟨by repeat (first | (with_reducible first | exact HB.out | apply below_alloc | apply pw_below_drewN | apply below_drew1) | exact HB.out)⟩⟩
            · rw [if_neg c15] at H
              exact absurd H (by simp)
          · rw [if_neg c14] at H
            exact absurd H (by simp)
        · replace c13 := Bool.eq_false_iff.mpr c13
          subst c13
          have H1 : (host_Of.j1 kj3 t164) = some (r1, r2) := by rw [if_neg (show ¬ (false = true) by decide)] at H; exact H
          clear H
          have H := H1
          clear H1
          have H' := Aside0.mk H
          clear H
          go_wp2
          go_meet
          case rel => exact ⟨_, (t164), (by first | rfl | (simp; done) | (simp [*]; done) | (simp [bne_nil_isEmpty, beq_nil_isEmpty]; done) | (simp [*, bne_nil_isEmpty, beq_nil_isEmpty]; done)), H', ⟨by have := HJ3.out; first | omega | exact Nat.le_refl _⟩, ⟨by repeat (first | (with_reducible first | exact HB.out | apply below_alloc | apply pw_below_drewN | apply below_drew1) | exact HB.out)⟩⟩
      case rest =>
        clear HC12
        try clear c1
        try clear p2
        try clear c3
        try clear c6
        try clear c6b0
        try clear c6b1
        try clear c6b2
        try clear p6
        try clear c8
        try clear c8b0
        try clear c8b1
        try clear c9
        try clear c9b0
        try clear c9b1
        try clear c13
        try clear c14
        try clear c14b0
        try clear c14b1
        try clear c15
        try clear c15b0
        try clear c15b1
        try clear p2
        try clear p6
        obtain ⟨kq, x0_11, rfl, HA, HJ11, HB⟩ := hcut
        cases kq with
        | zero => exact absurd HA.out (by simp [host_Of.j1])
        | succ kj11 =>
          have H := HA.out
          clear HA
          simp only [host_Of.j1] at H
          replace H := Option.bind_eq_some_iff.mp H
          obtain ⟨t167, A160, H⟩ := H
          replace H : ((dns_Name.f t167).bind fun t168 => (if t168 = true then (some (t167, 0)) else (some ((⟨#[]⟩ : ByteArray), 2)))) = some (r1, r2) := H
          have A16 := Aside0.mk A160
          clear A160
          replace H := Option.bind_eq_some_iff.mp H
          obtain ⟨t168, A170, H⟩ := H
          replace H : (if t168 = true then (some (t167, 0)) else (some ((⟨#[]⟩ : ByteArray), 2))) = some (r1, r2) := H
          have A17 := Aside0.mk A170
          clear A170
          by_cases c18 : t168 = true
          · subst c18
            have H1 : (some (t167, 0)) = some (r1, r2) := by rw [if_pos rfl] at H; exact H
            clear H
            have H := H1
            clear H1
            simp only [Option.some.injEq, Prod.mk.injEq] at H
            obtain ⟨rfl, rfl⟩ := H
            go_wp2_with (first | ((with_reducible refine gate_callee (f := 38) rfl ?_); refine goesL_ (some 22) rfl rfl Tryd.func38 (by kernel_rfl) rfl #[.string x0_11, .string (⟨#[46]⟩ : ByteArray)] rfl (by (try simp only [List.map_toArray, List.map_cons, List.map_nil]); first | done | rfl | (simp only [List.length_drop, List.length_take]; rfl)) ?_; (with_reducible refine (strings_TrimSuffix.calls x0_11 (⟨#[46]⟩ : ByteArray) t167 _ A16.out).mono ?_); rintro e w' ⟨rfl, ⟨nd, rfl⟩⟩; refine ⟨_, rfl, ?_⟩) | ((with_reducible refine gate_callee (f := 28) rfl ?_); refine goesL_ (some 24) rfl rfl Tryd.func28 (by kernel_rfl) rfl #[.string t167] rfl (by (try simp only [List.map_toArray, List.map_cons, List.map_nil]); first | done | rfl | (simp only [List.length_drop, List.length_take]; rfl)) ?_; (with_reducible refine (dns_Name.calls t167 true _ A17.out).mono ?_); rintro e w19 ⟨rfl, hb⟩; refine ⟨_, rfl, ?_⟩; have n0_ := Aside0.mk (below_step (by repeat (first | (with_reducible first | exact HB.out | apply below_alloc | apply pw_below_drewN | apply below_drew1) | exact HB.out)) hb); clear HB; have HB := n0_; clear n0_; (try clear hb); (try clear hb2); (try clear hk); (try clear hi)))
            go_ret2
            exact ⟨by first | rfl | (simp [errW_none, errW_some] <;> rfl) | (simp [*, errW_none, errW_some] <;> rfl), by repeat (first | (with_reducible first | exact HB.out | apply below_alloc | apply pw_below_drewN | apply below_drew1) | exact HB.out)⟩
          · replace c18 := Bool.eq_false_iff.mpr c18
            subst c18
            have H1 : (some ((⟨#[]⟩ : ByteArray), 2)) = some (r1, r2) := by rw [if_neg (show ¬ (false = true) by decide)] at H; exact H
            clear H
            have H := H1
            clear H1
            simp only [Option.some.injEq, Prod.mk.injEq] at H
            obtain ⟨rfl, rfl⟩ := H
            go_wp2_with (first | ((with_reducible refine gate_callee (f := 38) rfl ?_); refine goesL_ (some 22) rfl rfl Tryd.func38 (by kernel_rfl) rfl #[.string x0_11, .string (⟨#[46]⟩ : ByteArray)] rfl (by (try simp only [List.map_toArray, List.map_cons, List.map_nil]); first | done | rfl | (simp only [List.length_drop, List.length_take]; rfl)) ?_; (with_reducible refine (strings_TrimSuffix.calls x0_11 (⟨#[46]⟩ : ByteArray) t167 _ A16.out).mono ?_); rintro e w' ⟨rfl, ⟨nd, rfl⟩⟩; refine ⟨_, rfl, ?_⟩) | ((with_reducible refine gate_callee (f := 28) rfl ?_); refine goesL_ (some 24) rfl rfl Tryd.func28 (by kernel_rfl) rfl #[.string t167] rfl (by (try simp only [List.map_toArray, List.map_cons, List.map_nil]); first | done | rfl | (simp only [List.length_drop, List.length_take]; rfl)) ?_; (with_reducible refine (dns_Name.calls t167 false _ A17.out).mono ?_); rintro e w20 ⟨rfl, hb⟩; refine ⟨_, rfl, ?_⟩; have n0_ := Aside0.mk (below_step (by repeat (first | (with_reducible first | exact HB.out | apply below_alloc | apply pw_below_drewN | apply below_drew1) | exact HB.out)) hb); clear HB; have HB := n0_; clear n0_; (try clear hb); (try clear hb2); (try clear hk); (try clear hi)))
            go_ret2
            exact ⟨by first | rfl | (simp [errW_none, errW_some] <;> rfl) | (simp [*, errW_none, errW_some] <;> rfl), by repeat (first | (with_reducible first | exact HB.out | apply below_alloc | apply pw_below_drewN | apply below_drew1) | exact HB.out)⟩

/-! ### tolllaw02_awake: function 16 -/
def tolllaw02_awake.f (k : Nat)  : Option (Bool) := (host_Meet.f k (⟨#[42, 46, 97, 46, 98]⟩ : ByteArray) (⟨#[42, 46, 98]⟩ : ByteArray)).bind fun bt169 => ((host_Meet.f k (⟨#[120, 46, 97, 46, 98]⟩ : ByteArray) (⟨#[42, 46, 98]⟩ : ByteArray)).bind fun bt171 => ((host_Meet.f k (⟨#[42, 46, 97]⟩ : ByteArray) (⟨#[42, 46, 98]⟩ : ByteArray)).bind fun bt173 => ((host_Of.f k (⟨#[87, 101, 98, 46, 84, 101, 115, 116, 46, 58, 56, 48, 56, 48]⟩ : ByteArray)).bind fun bt175 => (if bt169.1.toList = ([42, 46, 97, 46, 98] : List UInt8) then (if bt169.2 = true then (if bt171.1.toList = ([120, 46, 97, 46, 98] : List UInt8) then (if bt171.2 = true then (if bt173.2 = true then (none) else ((host_Holds.f k (⟨#[42, 46, 98]⟩ : ByteArray) (⟨#[98]⟩ : ByteArray)).bind fun t177 => (if t177 = true then (none) else (if bt175.1.toList = ([119, 101, 98, 46, 116, 101, 115, 116] : List UInt8) then (some (bt175.2 == 0)) else (none))))) else (none)) else (none)) else (none)) else (none)))))
theorem tolllaw02_awake.mono : ∀ k, LeO (tolllaw02_awake.f k ) (tolllaw02_awake.f (k + 1) ) := by
  intro  k
  unfold tolllaw02_awake.f
  repeat' first
      | (with_reducible exact host_Holds.mono _ _ _)
      | (with_reducible exact host_Meet.mono _ _ _)
      | (with_reducible exact host_Of.mono _ _)
      | (with_reducible exact LeO.refl _)
      | (with_reducible exact LeO.none _)
      | (with_reducible refine LeO.ite ?_ ?_)
      | (with_reducible refine LeO.bind ?_ (fun _ => ?_))
      | exact host_Holds.mono _ _ _
      | exact host_Meet.mono _ _ _
      | exact host_Of.mono _ _
      | exact LeO.none _
      | refine LeO.ite ?_ ?_
      | refine LeO.bind ?_ (fun _ => ?_)
set_option maxHeartbeats 8000000 in
set_option maxRecDepth 100000 in
theorem tolllaw02_awake.calls (k : Nat)  (r : Bool) (w : World) (h : tolllaw02_awake.f k  = some r) :
    Calls Tryd.prog 16 #[] w fun e w' => e = .returned (.bool r) ∧ Below w.heap.size w w' := by
  have HB := Aside0.mk (Below.refl w.heap.size w)
  have H : ((host_Meet.f k (⟨#[42, 46, 97, 46, 98]⟩ : ByteArray) (⟨#[42, 46, 98]⟩ : ByteArray)).bind fun bt169 => ((host_Meet.f k (⟨#[120, 46, 97, 46, 98]⟩ : ByteArray) (⟨#[42, 46, 98]⟩ : ByteArray)).bind fun bt171 => ((host_Meet.f k (⟨#[42, 46, 97]⟩ : ByteArray) (⟨#[42, 46, 98]⟩ : ByteArray)).bind fun bt173 => ((host_Of.f k (⟨#[87, 101, 98, 46, 84, 101, 115, 116, 46, 58, 56, 48, 56, 48]⟩ : ByteArray)).bind fun bt175 => (if bt169.1.toList = ([42, 46, 97, 46, 98] : List UInt8) then (if bt169.2 = true then (if bt171.1.toList = ([120, 46, 97, 46, 98] : List UInt8) then (if bt171.2 = true then (if bt173.2 = true then (none) else ((host_Holds.f k (⟨#[42, 46, 98]⟩ : ByteArray) (⟨#[98]⟩ : ByteArray)).bind fun t177 => (if t177 = true then (none) else (if bt175.1.toList = ([119, 101, 98, 46, 116, 101, 115, 116] : List UInt8) then (some (bt175.2 == 0)) else (none))))) else (none)) else (none)) else (none)) else (none)))))) = some r := h
  clear h
  replace H := Option.bind_eq_some_iff.mp H
  obtain ⟨⟨t169, t170⟩, A10, H⟩ := H
  replace H : ((host_Meet.f k (⟨#[120, 46, 97, 46, 98]⟩ : ByteArray) (⟨#[42, 46, 98]⟩ : ByteArray)).bind fun bt171 => ((host_Meet.f k (⟨#[42, 46, 97]⟩ : ByteArray) (⟨#[42, 46, 98]⟩ : ByteArray)).bind fun bt173 => ((host_Of.f k (⟨#[87, 101, 98, 46, 84, 101, 115, 116, 46, 58, 56, 48, 56, 48]⟩ : ByteArray)).bind fun bt175 => (if t169.toList = ([42, 46, 97, 46, 98] : List UInt8) then (if t170 = true then (if bt171.1.toList = ([120, 46, 97, 46, 98] : List UInt8) then (if bt171.2 = true then (if bt173.2 = true then (none) else ((host_Holds.f k (⟨#[42, 46, 98]⟩ : ByteArray) (⟨#[98]⟩ : ByteArray)).bind fun t177 => (if t177 = true then (none) else (if bt175.1.toList = ([119, 101, 98, 46, 116, 101, 115, 116] : List UInt8) then (some (bt175.2 == 0)) else (none))))) else (none)) else (none)) else (none)) else (none))))) = some r := H
  have A1 := Aside0.mk A10
  clear A10
  replace H := Option.bind_eq_some_iff.mp H
  obtain ⟨⟨t171, t172⟩, A20, H⟩ := H
  replace H : ((host_Meet.f k (⟨#[42, 46, 97]⟩ : ByteArray) (⟨#[42, 46, 98]⟩ : ByteArray)).bind fun bt173 => ((host_Of.f k (⟨#[87, 101, 98, 46, 84, 101, 115, 116, 46, 58, 56, 48, 56, 48]⟩ : ByteArray)).bind fun bt175 => (if t169.toList = ([42, 46, 97, 46, 98] : List UInt8) then (if t170 = true then (if t171.toList = ([120, 46, 97, 46, 98] : List UInt8) then (if t172 = true then (if bt173.2 = true then (none) else ((host_Holds.f k (⟨#[42, 46, 98]⟩ : ByteArray) (⟨#[98]⟩ : ByteArray)).bind fun t177 => (if t177 = true then (none) else (if bt175.1.toList = ([119, 101, 98, 46, 116, 101, 115, 116] : List UInt8) then (some (bt175.2 == 0)) else (none))))) else (none)) else (none)) else (none)) else (none)))) = some r := H
  have A2 := Aside0.mk A20
  clear A20
  replace H := Option.bind_eq_some_iff.mp H
  obtain ⟨⟨t173, t174⟩, A30, H⟩ := H
  replace H : ((host_Of.f k (⟨#[87, 101, 98, 46, 84, 101, 115, 116, 46, 58, 56, 48, 56, 48]⟩ : ByteArray)).bind fun bt175 => (if t169.toList = ([42, 46, 97, 46, 98] : List UInt8) then (if t170 = true then (if t171.toList = ([120, 46, 97, 46, 98] : List UInt8) then (if t172 = true then (if t174 = true then (none) else ((host_Holds.f k (⟨#[42, 46, 98]⟩ : ByteArray) (⟨#[98]⟩ : ByteArray)).bind fun t177 => (if t177 = true then (none) else (if bt175.1.toList = ([119, 101, 98, 46, 116, 101, 115, 116] : List UInt8) then (some (bt175.2 == 0)) else (none))))) else (none)) else (none)) else (none)) else (none))) = some r := H
  have A3 := Aside0.mk A30
  clear A30
  replace H := Option.bind_eq_some_iff.mp H
  obtain ⟨⟨t175, t176⟩, A40, H⟩ := H
  replace H : (if t169.toList = ([42, 46, 97, 46, 98] : List UInt8) then (if t170 = true then (if t171.toList = ([120, 46, 97, 46, 98] : List UInt8) then (if t172 = true then (if t174 = true then (none) else ((host_Holds.f k (⟨#[42, 46, 98]⟩ : ByteArray) (⟨#[98]⟩ : ByteArray)).bind fun t177 => (if t177 = true then (none) else (if t175.toList = ([119, 101, 98, 46, 116, 101, 115, 116] : List UInt8) then (some (t176 == 0)) else (none))))) else (none)) else (none)) else (none)) else (none)) = some r := H
  have A4 := Aside0.mk A40
  clear A40
  by_cases c5 : t169.toList = ([42, 46, 97, 46, 98] : List UInt8)
  · rw [if_pos c5] at H
    have c5b0 : (t169.toList == ([42, 46, 97, 46, 98] : List UInt8)) = true := beq_iff_eq.mpr c5
    have c5b1 : (t169.toList != ([42, 46, 97, 46, 98] : List UInt8)) = false := bne_eq_false_iff_eq.mpr c5
    clear c5
    by_cases c6 : t170 = true
    · subst c6
      have H1 : (if t171.toList = ([120, 46, 97, 46, 98] : List UInt8) then (if t172 = true then (if t174 = true then (none) else ((host_Holds.f k (⟨#[42, 46, 98]⟩ : ByteArray) (⟨#[98]⟩ : ByteArray)).bind fun t177 => (if t177 = true then (none) else (if t175.toList = ([119, 101, 98, 46, 116, 101, 115, 116] : List UInt8) then (some (t176 == 0)) else (none))))) else (none)) else (none)) = some r := by rw [if_pos rfl] at H; exact H
      clear H
      have H := H1
      clear H1
      by_cases c7 : t171.toList = ([120, 46, 97, 46, 98] : List UInt8)
      · rw [if_pos c7] at H
        have c7b0 : (t171.toList == ([120, 46, 97, 46, 98] : List UInt8)) = true := beq_iff_eq.mpr c7
        have c7b1 : (t171.toList != ([120, 46, 97, 46, 98] : List UInt8)) = false := bne_eq_false_iff_eq.mpr c7
        clear c7
        by_cases c8 : t172 = true
        · subst c8
          have H1 : (if t174 = true then (none) else ((host_Holds.f k (⟨#[42, 46, 98]⟩ : ByteArray) (⟨#[98]⟩ : ByteArray)).bind fun t177 => (if t177 = true then (none) else (if t175.toList = ([119, 101, 98, 46, 116, 101, 115, 116] : List UInt8) then (some (t176 == 0)) else (none))))) = some r := by rw [if_pos rfl] at H; exact H
          clear H
          have H := H1
          clear H1
          by_cases c9 : t174 = true
          · subst c9
            have H1 : (none) = some r := by rw [if_pos rfl] at H; exact H
            clear H
            have H := H1
            clear H1
            exact absurd H (by simp)
          · replace c9 := Bool.eq_false_iff.mpr c9
            subst c9
            have H1 : ((host_Holds.f k (⟨#[42, 46, 98]⟩ : ByteArray) (⟨#[98]⟩ : ByteArray)).bind fun t177 => (if t177 = true then (none) else (if t175.toList = ([119, 101, 98, 46, 116, 101, 115, 116] : List UInt8) then (some (t176 == 0)) else (none)))) = some r := by rw [if_neg (show ¬ (false = true) by decide)] at H; exact H
            clear H
            have H := H1
            clear H1
            replace H := Option.bind_eq_some_iff.mp H
            obtain ⟨t177, A100, H⟩ := H
            replace H : (if t177 = true then (none) else (if t175.toList = ([119, 101, 98, 46, 116, 101, 115, 116] : List UInt8) then (some (t176 == 0)) else (none))) = some r := H
            have A10 := Aside0.mk A100
            clear A100
            by_cases c11 : t177 = true
            · subst c11
              have H1 : (none) = some r := by rw [if_pos rfl] at H; exact H
              clear H
              have H := H1
              clear H1
              exact absurd H (by simp)
            · replace c11 := Bool.eq_false_iff.mpr c11
              subst c11
              have H1 : (if t175.toList = ([119, 101, 98, 46, 116, 101, 115, 116] : List UInt8) then (some (t176 == 0)) else (none)) = some r := by rw [if_neg (show ¬ (false = true) by decide)] at H; exact H
              clear H
              have H := H1
              clear H1
              by_cases c12 : t175.toList = ([119, 101, 98, 46, 116, 101, 115, 116] : List UInt8)
              · rw [if_pos c12] at H
                have c12b0 : (t175.toList == ([119, 101, 98, 46, 116, 101, 115, 116] : List UInt8)) = true := beq_iff_eq.mpr c12
                have c12b1 : (t175.toList != ([119, 101, 98, 46, 116, 101, 115, 116] : List UInt8)) = false := bne_eq_false_iff_eq.mpr c12
                clear c12
                obtain rfl := Option.some.inj H
                go_enter Tryd.func16, Tryd.ntmps16
                go_wp2_with (first | ((with_reducible refine gate_callee (f := 17) rfl ?_); refine goesL_ (some 10) rfl rfl Tryd.func17 (by kernel_rfl) rfl #[.string (⟨#[42, 46, 97, 46, 98]⟩ : ByteArray), .string (⟨#[42, 46, 98]⟩ : ByteArray)] rfl (by (try simp only [List.map_toArray, List.map_cons, List.map_nil]); first | done | rfl | (simp only [List.length_drop, List.length_take]; rfl)) ?_; (with_reducible refine (host_Meet.calls k (⟨#[42, 46, 97, 46, 98]⟩ : ByteArray) (⟨#[42, 46, 98]⟩ : ByteArray) t169 true _ A1.out).mono ?_); rintro e w13 ⟨rfl, hb⟩; refine ⟨_, rfl, ?_⟩; have n0_ := Aside0.mk (below_step (by repeat (first | (with_reducible first | exact HB.out | apply below_alloc | apply pw_below_drewN | apply below_drew1) | exact HB.out)) hb); clear HB; have HB := n0_; clear n0_; (try clear hb); (try clear hb2); (try clear hk); (try clear hi)) | ((with_reducible refine gate_callee (f := 17) rfl ?_); refine goesL_ (some 14) rfl rfl Tryd.func17 (by kernel_rfl) rfl #[.string (⟨#[120, 46, 97, 46, 98]⟩ : ByteArray), .string (⟨#[42, 46, 98]⟩ : ByteArray)] rfl (by (try simp only [List.map_toArray, List.map_cons, List.map_nil]); first | done | rfl | (simp only [List.length_drop, List.length_take]; rfl)) ?_; (with_reducible refine (host_Meet.calls k (⟨#[120, 46, 97, 46, 98]⟩ : ByteArray) (⟨#[42, 46, 98]⟩ : ByteArray) t171 true _ A2.out).mono ?_); rintro e w14 ⟨rfl, hb⟩; refine ⟨_, rfl, ?_⟩; have n0_ := Aside0.mk (below_step (by repeat (first | (with_reducible first | exact HB.out | apply below_alloc | apply pw_below_drewN | apply below_drew1) | exact HB.out)) hb); clear HB; have HB := n0_; clear n0_; (try clear hb); (try clear hb2); (try clear hk); (try clear hi)) | ((with_reducible refine gate_callee (f := 17) rfl ?_); refine goesL_ (some 18) rfl rfl Tryd.func17 (by kernel_rfl) rfl #[.string (⟨#[42, 46, 97]⟩ : ByteArray), .string (⟨#[42, 46, 98]⟩ : ByteArray)] rfl (by (try simp only [List.map_toArray, List.map_cons, List.map_nil]); first | done | rfl | (simp only [List.length_drop, List.length_take]; rfl)) ?_; (with_reducible refine (host_Meet.calls k (⟨#[42, 46, 97]⟩ : ByteArray) (⟨#[42, 46, 98]⟩ : ByteArray) t173 false _ A3.out).mono ?_); rintro e w15 ⟨rfl, hb⟩; refine ⟨_, rfl, ?_⟩; have n0_ := Aside0.mk (below_step (by repeat (first | (with_reducible first | exact HB.out | apply below_alloc | apply pw_below_drewN | apply below_drew1) | exact HB.out)) hb); clear HB; have HB := n0_; clear n0_; (try clear hb); (try clear hb2); (try clear hk); (try clear hi)) | ((with_reducible refine gate_callee (f := 19) rfl ?_); refine goesL_ (some 22) rfl rfl Tryd.func19 (by kernel_rfl) rfl #[.string (⟨#[87, 101, 98, 46, 84, 101, 115, 116, 46, 58, 56, 48, 56, 48]⟩ : ByteArray)] rfl (by (try simp only [List.map_toArray, List.map_cons, List.map_nil]); first | done | rfl | (simp only [List.length_drop, List.length_take]; rfl)) ?_; (with_reducible refine (host_Of.calls k (⟨#[87, 101, 98, 46, 84, 101, 115, 116, 46, 58, 56, 48, 56, 48]⟩ : ByteArray) t175 t176 _ A4.out).mono ?_); rintro e w16 ⟨rfl, hb⟩; refine ⟨_, rfl, ?_⟩; have n0_ := Aside0.mk (below_step (by repeat (first | (with_reducible first | exact HB.out | apply below_alloc | apply pw_below_drewN | apply below_drew1) | exact HB.out)) hb); clear HB; have HB := n0_; clear n0_; (try clear hb); (try clear hb2); (try clear hk); (try clear hi)) | (go_at_call 14; (with_reducible refine (host_Holds.calls k (⟨#[42, 46, 98]⟩ : ByteArray) (⟨#[98]⟩ : ByteArray) false _ A10.out).mono ?_); rintro e w17 ⟨rfl, hb⟩; have n0_ := Aside0.mk (below_step (by repeat (first | (with_reducible first | exact HB.out | apply below_alloc | apply pw_below_drewN | apply below_drew1) | exact HB.out)) hb); clear HB; have HB := n0_; clear n0_; (try clear hb); (try clear hb2); (try clear hk); (try clear hi)))
                go_ret
                exact ⟨by first | rfl | (simp [errW_none, errW_some] <;> rfl) | (simp [*, errW_none, errW_some] <;> rfl), by repeat (first | (with_reducible first | exact HB.out | apply below_alloc | apply pw_below_drewN | apply below_drew1) | exact HB.out)⟩
              · rw [if_neg c12] at H
                exact absurd H (by simp)
        · replace c8 := Bool.eq_false_iff.mpr c8
          subst c8
          have H1 : (none) = some r := by rw [if_neg (show ¬ (false = true) by decide)] at H; exact H
          clear H
          have H := H1
          clear H1
          exact absurd H (by simp)
      · rw [if_neg c7] at H
        exact absurd H (by simp)
    · replace c6 := Bool.eq_false_iff.mpr c6
      subst c6
      have H1 : (none) = some r := by rw [if_neg (show ¬ (false = true) by decide)] at H; exact H
      clear H
      have H := H1
      clear H1
      exact absurd H (by simp)
  · rw [if_neg c5] at H
    exact absurd H (by simp)

end Go.Proofs.YtjfjmniegceejaaDoor.P
