-- written by wip/tool/hprint.py of this repo: the kit's print, with contracts by hand joined; Lean checks it.
import Derived.Test.YtjfjmniegceejaaDoorPx0
import Derived.Test.YtjfjmniegceejaaDoorPx2
import Derived.Test.YtjfjmniegceejaaDoorPx3
import Derived.Test.YtjfjmniegceejaaDoorPx4
namespace Go.Proofs.YtjfjmniegceejaaDoor.P
open Go.RowKit Go.Proofs.YtjfjmniegceejaaDoorW.PrintWords Go.Proofs.YtjfjmniegceejaaDoorW.PrintLast Go.Proofs.YtjfjmniegceejaaDoorW.PrintMore
attribute [local go_sem] max2_int min2_int max_two min_two max_three min_three max_four min_four   -- for this text's walks alone
set_option linter.unusedVariables false
set_option linter.unusedSimpArgs false

/-! ### strings_HasSuffix: function 48 -/
def strings_HasSuffix.f (a0 : ByteArray) (a1 : ByteArray) : Option (Bool) := (stringslite_HasSuffix.f a0 a1).bind fun t126 => (some t126)
set_option maxHeartbeats 8000000 in
set_option maxRecDepth 100000 in
theorem strings_HasSuffix.calls (a0 : ByteArray) (a1 : ByteArray) (r : Bool) (w : World) (h : strings_HasSuffix.f a0 a1 = some r) :
    Calls Tryd.prog 48 #[.string a0, .string a1] w fun e w' => e = .returned (.bool r) ∧ Drawn0 w w' := by
  have H : ((stringslite_HasSuffix.f a0 a1).bind fun t126 => (some t126)) = some r := h
  clear h
  replace H := Option.bind_eq_some_iff.mp H
  obtain ⟨t126, A30, H⟩ := H
  replace H : (some t126) = some r := H
  have A3 := Aside0.mk A30
  clear A30
  obtain rfl := Option.some.inj H
  go_enter Tryd.func48, Tryd.ntmps48
  go_wp2_with (first | ((with_reducible refine gate_callee (f := 60) rfl ?_); refine goesL_ (some 7) rfl rfl Tryd.func60 (by kernel_rfl) rfl #[.string a0, .string a1] rfl (by (try simp only [List.map_toArray, List.map_cons, List.map_nil]); first | done | rfl | (simp only [List.length_drop, List.length_take]; rfl)) ?_; (with_reducible refine (stringslite_HasSuffix.calls a0 a1 t126 _ A3.out).mono ?_); rintro e w' ⟨rfl, ⟨nd, rfl⟩⟩; refine ⟨_, rfl, ?_⟩))
  go_ret
  exact ⟨by first | rfl | (simp; done) | (simp [*]; done) | (simp [bne_nil_isEmpty, beq_nil_isEmpty]; done) | (simp [*, bne_nil_isEmpty, beq_nil_isEmpty]; done), by repeat (first | exact Drawn0.refl _ | apply Drawn0.step)⟩

/-! ### dns_Under: function 30 -/
def dns_Under.f (a0 : ByteArray) (a1 : ByteArray) : Option (Bool) := (dns_Name.f a0).bind fun t127 => (if t127 = true then ((dns_Name.f a1).bind fun t128 => (if t128 = true then (if 1 + a1.size ≤ 9223372036854775807 then ((strings_HasSuffix.f a0 ((⟨#[46]⟩ : ByteArray) ++ a1)).bind fun t129 => (some t129)) else (none)) else (some false))) else (some false))
set_option maxHeartbeats 8000000 in
set_option maxRecDepth 100000 in
theorem dns_Under.calls (a0 : ByteArray) (a1 : ByteArray) (r : Bool) (w : World) (h : dns_Under.f a0 a1 = some r) :
    Calls Tryd.prog 30 #[.string a0, .string a1] w fun e w' => e = .returned (.bool r) ∧ Below w.heap.size w w' := by
  have HB := Aside0.mk (Below.refl w.heap.size w)
  have H : ((dns_Name.f a0).bind fun t127 => (if t127 = true then ((dns_Name.f a1).bind fun t128 => (if t128 = true then (if 1 + a1.size ≤ 9223372036854775807 then ((strings_HasSuffix.f a0 ((⟨#[46]⟩ : ByteArray) ++ a1)).bind fun t129 => (some t129)) else (none)) else (some false))) else (some false))) = some r := h
  clear h
  replace H := Option.bind_eq_some_iff.mp H
  obtain ⟨t127, A30, H⟩ := H
  replace H : (if t127 = true then ((dns_Name.f a1).bind fun t128 => (if t128 = true then (if 1 + a1.size ≤ 9223372036854775807 then ((strings_HasSuffix.f a0 ((⟨#[46]⟩ : ByteArray) ++ a1)).bind fun t129 => (some t129)) else (none)) else (some false))) else (some false)) = some r := H
  have A3 := Aside0.mk A30
  clear A30
  by_cases c4 : t127 = true
  · subst c4
    have H1 : ((dns_Name.f a1).bind fun t128 => (if t128 = true then (if 1 + a1.size ≤ 9223372036854775807 then ((strings_HasSuffix.f a0 ((⟨#[46]⟩ : ByteArray) ++ a1)).bind fun t129 => (some t129)) else (none)) else (some false))) = some r := by rw [if_pos rfl] at H; exact H
    clear H
    have H := H1
    clear H1
    replace H := Option.bind_eq_some_iff.mp H
    obtain ⟨t128, A50, H⟩ := H
    replace H : (if t128 = true then (if 1 + a1.size ≤ 9223372036854775807 then ((strings_HasSuffix.f a0 ((⟨#[46]⟩ : ByteArray) ++ a1)).bind fun t129 => (some t129)) else (none)) else (some false)) = some r := H
    have A5 := Aside0.mk A50
    clear A50
    by_cases c6 : t128 = true
    · subst c6
      have H1 : (if 1 + a1.size ≤ 9223372036854775807 then ((strings_HasSuffix.f a0 ((⟨#[46]⟩ : ByteArray) ++ a1)).bind fun t129 => (some t129)) else (none)) = some r := by rw [if_pos rfl] at H; exact H
      clear H
      have H := H1
      clear H1
      by_cases c7 : 1 + a1.size ≤ 9223372036854775807
      · rw [if_pos c7] at H
        have c7b0 := eq_true c7
        have c7b1 : decide (1 + a1.size ≤ 9223372036854775807) = true := decide_eq_true c7
        try have c7b2 : (9223372036854775807 < 1 + a1.size) = False := eq_false (Nat.not_lt.2 c7)
        replace H := Option.bind_eq_some_iff.mp H
        obtain ⟨t129, A80, H⟩ := H
        replace H : (some t129) = some r := H
        have A8 := Aside0.mk A80
        clear A80
        obtain rfl := Option.some.inj H
        go_enter Tryd.func30, Tryd.ntmps30
        go_wp2_with (first | ((with_reducible refine gate_callee (f := 28) rfl ?_); refine goesL_ (some 6) rfl rfl Tryd.func28 (by kernel_rfl) rfl #[.string a0] rfl (by (try simp only [List.map_toArray, List.map_cons, List.map_nil]); first | done | rfl | (simp only [List.length_drop, List.length_take]; rfl)) ?_; (with_reducible refine (dns_Name.calls a0 true _ A3.out).mono ?_); rintro e w9 ⟨rfl, hb⟩; refine ⟨_, rfl, ?_⟩; have n0_ := Aside0.mk (below_step (by repeat (first | (with_reducible first | exact HB.out | apply below_alloc | apply pw_below_drewN | apply below_drew1) | exact HB.out)) hb); clear HB; have HB := n0_; clear n0_; (try clear hb); (try clear hb2); (try clear hk); (try clear hi)) | (go_at_call 28; (with_reducible refine (dns_Name.calls a1 true _ A5.out).mono ?_); rintro e w10 ⟨rfl, hb⟩; have n0_ := Aside0.mk (below_step (by repeat (first | (with_reducible first | exact HB.out | apply below_alloc | apply pw_below_drewN | apply below_drew1) | exact HB.out)) hb); clear HB; have HB := n0_; clear n0_; (try clear hb); (try clear hb2); (try clear hk); (try clear hi)) | (go_at_call 48; (with_reducible refine (strings_HasSuffix.calls a0 ((⟨#[46]⟩ : ByteArray) ++ a1) t129 _ A8.out).mono ?_); rintro e w' ⟨rfl, ⟨nd, rfl⟩⟩))
        go_ret
        exact ⟨by first | rfl | (simp [errW_none, errW_some] <;> rfl) | (simp [*, errW_none, errW_some] <;> rfl), by repeat (first | (with_reducible first | exact HB.out | apply below_alloc | apply pw_below_drewN | apply below_drew1) | exact HB.out)⟩
      · rw [if_neg c7] at H
        exact absurd H (by simp)
    · replace c6 := Bool.eq_false_iff.mpr c6
      subst c6
      have H1 : (some false) = some r := by rw [if_neg (show ¬ (false = true) by decide)] at H; exact H
      clear H
      have H := H1
      clear H1
      obtain rfl := Option.some.inj H
      go_enter Tryd.func30, Tryd.ntmps30
      go_wp2_with (first | ((with_reducible refine gate_callee (f := 28) rfl ?_); refine goesL_ (some 6) rfl rfl Tryd.func28 (by kernel_rfl) rfl #[.string a0] rfl (by (try simp only [List.map_toArray, List.map_cons, List.map_nil]); first | done | rfl | (simp only [List.length_drop, List.length_take]; rfl)) ?_; (with_reducible refine (dns_Name.calls a0 true _ A3.out).mono ?_); rintro e w11 ⟨rfl, hb⟩; refine ⟨_, rfl, ?_⟩; have n0_ := Aside0.mk (below_step (by repeat (first | (with_reducible first | exact HB.out | apply below_alloc | apply pw_below_drewN | apply below_drew1) | exact HB.out)) hb); clear HB; have HB := n0_; clear n0_; (try clear hb); (try clear hb2); (try clear hk); (try clear hi)) | (go_at_call 28; (with_reducible refine (dns_Name.calls a1 false _ A5.out).mono ?_); rintro e w12 ⟨rfl, hb⟩; have n0_ := Aside0.mk (below_step (by repeat (first | (with_reducible first | exact HB.out | apply below_alloc | apply pw_below_drewN | apply below_drew1) | exact HB.out)) hb); clear HB; have HB := n0_; clear n0_; (try clear hb); (try clear hb2); (try clear hk); (try clear hi)))
      go_ret
      exact ⟨by first | rfl | (simp [errW_none, errW_some] <;> rfl) | (simp [*, errW_none, errW_some] <;> rfl), by repeat (first | (with_reducible first | exact HB.out | apply below_alloc | apply pw_below_drewN | apply below_drew1) | exact HB.out)⟩
  · replace c4 := Bool.eq_false_iff.mpr c4
    subst c4
    have H1 : (some false) = some r := by rw [if_neg (show ¬ (false = true) by decide)] at H; exact H
    clear H
    have H := H1
    clear H1
    obtain rfl := Option.some.inj H
    go_enter Tryd.func30, Tryd.ntmps30
    go_wp2_with (first | ((with_reducible refine gate_callee (f := 28) rfl ?_); refine goesL_ (some 6) rfl rfl Tryd.func28 (by kernel_rfl) rfl #[.string a0] rfl (by (try simp only [List.map_toArray, List.map_cons, List.map_nil]); first | done | rfl | (simp only [List.length_drop, List.length_take]; rfl)) ?_; (with_reducible refine (dns_Name.calls a0 false _ A3.out).mono ?_); rintro e w13 ⟨rfl, hb⟩; refine ⟨_, rfl, ?_⟩; have n0_ := Aside0.mk (below_step (by repeat (first | (with_reducible first | exact HB.out | apply below_alloc | apply pw_below_drewN | apply below_drew1) | exact HB.out)) hb); clear HB; have HB := n0_; clear n0_; (try clear hb); (try clear hb2); (try clear hk); (try clear hi)))
    go_ret
    exact ⟨by first | rfl | (simp [errW_none, errW_some] <;> rfl) | (simp [*, errW_none, errW_some] <;> rfl), by repeat (first | (with_reducible first | exact HB.out | apply below_alloc | apply pw_below_drewN | apply below_drew1) | exact HB.out)⟩

/-! ### host_Holds: function 14 -/
def host_Holds.j0 : Nat → ByteArray → ByteArray → ByteArray → Bool → Bool → Option (Bool)
  | 0, _, _, _, _, _ => none
  | k + 1, x0, x1, x5, x6, x12 => if x12 = true then (some false) else (if x0.toList = ([] : List UInt8) then (some true) else (if x6 = true then ((dns_Under.f x1 x5).bind fun t134 => (some t134)) else (some (x0.toList == x1.toList))))
def host_Holds.f (k : Nat) (a0 : ByteArray) (a1 : ByteArray) : Option (Bool) := (strings_CutPrefix.f a0 (⟨#[42, 46]⟩ : ByteArray)).bind fun bt130 => ((host_May.f a0).bind fun t132 => (if t132 = true then ((dns_Name.f a1).bind fun t133 => (host_Holds.j0 k a0 a1 bt130.1 bt130.2 (!t133))) else (host_Holds.j0 k a0 a1 bt130.1 bt130.2 true)))
theorem host_Holds.mono_l : ∀ k, (∀ y0 y1 y2 y3 y4, LeO (host_Holds.j0 k y0 y1 y2 y3 y4) (host_Holds.j0 (k + 1) y0 y1 y2 y3 y4))
  | 0 => fun _ _ _ _ _ r h => by simp [host_Holds.j0] at h
  | k + 1 => by
    have ih0 := host_Holds.mono_l k
    · intro y0 y1 y2 y3 y4
      unfold host_Holds.j0
      repeat' first
      | (with_reducible exact ih0 _ _ _ _ _)
      | (with_reducible exact LeO.refl _)
      | (with_reducible exact LeO.none _)
      | (with_reducible refine LeO.ite ?_ ?_)
      | (with_reducible refine LeO.bind ?_ (fun _ => ?_))
      | exact ih0 _ _ _ _ _
      | exact LeO.none _
      | refine LeO.ite ?_ ?_
      | refine LeO.bind ?_ (fun _ => ?_)
theorem host_Holds.mono : ∀ a0 a1 k, LeO (host_Holds.f k a0 a1) (host_Holds.f (k + 1) a0 a1) := by
  intro a0 a1 k
  have ih0 := host_Holds.mono_l k
  unfold host_Holds.f
  repeat' first
      | (with_reducible exact ih0 _ _ _ _ _)
      | (with_reducible exact LeO.refl _)
      | (with_reducible exact LeO.none _)
      | (with_reducible refine LeO.ite ?_ ?_)
      | (with_reducible refine LeO.bind ?_ (fun _ => ?_))
      | exact ih0 _ _ _ _ _
      | exact LeO.none _
      | refine LeO.ite ?_ ?_
      | refine LeO.bind ?_ (fun _ => ?_)
set_option maxHeartbeats 8000000 in
set_option maxRecDepth 100000 in
theorem host_Holds.calls (k : Nat) (a0 : ByteArray) (a1 : ByteArray) (r : Bool) (w : World) (h : host_Holds.f k a0 a1 = some r) :
    Calls Tryd.prog 14 #[.string a0, .string a1] w fun e w' => e = .returned (.bool r) ∧ Below w.heap.size w w' := by
  have HB := Aside0.mk (Below.refl w.heap.size w)
  have H : ((strings_CutPrefix.f a0 (⟨#[42, 46]⟩ : ByteArray)).bind fun bt130 => ((host_May.f a0).bind fun t132 => (if t132 = true then ((dns_Name.f a1).bind fun t133 => (host_Holds.j0 k a0 a1 bt130.1 bt130.2 (!t133))) else (host_Holds.j0 k a0 a1 bt130.1 bt130.2 true)))) = some r := h
  clear h
  replace H := Option.bind_eq_some_iff.mp H
  obtain ⟨⟨t130, t131⟩, A30, H⟩ := H
  replace H : ((host_May.f a0).bind fun t132 => (if t132 = true then ((dns_Name.f a1).bind fun t133 => (host_Holds.j0 k a0 a1 t130 t131 (!t133))) else (host_Holds.j0 k a0 a1 t130 t131 true))) = some r := H
  have A3 := Aside0.mk A30
  clear A30
  have HC4 := Aside0.mk H
  clear H
  go_enter Tryd.func14, Tryd.ntmps14
  go_upto_region 2 with (first | ((with_reducible refine gate_callee (f := 27) rfl ?_); refine goesL_ (some 9) rfl rfl Tryd.func27 (by kernel_rfl) rfl #[.string a0, .string (⟨#[42, 46]⟩ : ByteArray)] rfl (by (try simp only [List.map_toArray, List.map_cons, List.map_nil]); first | done | rfl | (simp only [List.length_drop, List.length_take]; rfl)) ?_; (with_reducible refine (strings_CutPrefix.calls a0 (⟨#[42, 46]⟩ : ByteArray) t130 t131 _ A3.out).mono ?_); rintro e w' ⟨rfl, ⟨nd, rfl⟩⟩; refine ⟨_, rfl, ?_⟩))
  (try simp only [Act.put, List.setIfInBounds_toArray, List.set_cons_zero, List.set_cons_succ])
  go_cut [12] (fun v12 wc => ∃ (kq : Nat) (x12_3 : Bool), v12 = .bool x12_3 ∧ Aside0 (host_Holds.j0 kq a0 a1 t130 t131 x12_3 = some r) ∧ Aside0 (kq ≤ k) ∧ Aside0 (Below w.heap.size w wc))
  case first =>
    have H := HC4.out
    clear HC4
    replace H := Option.bind_eq_some_iff.mp H
    obtain ⟨t132, A50, H⟩ := H
    replace H : (if t132 = true then ((dns_Name.f a1).bind fun t133 => (host_Holds.j0 k a0 a1 t130 t131 (!t133))) else (host_Holds.j0 k a0 a1 t130 t131 true)) = some r := H
    have A5 := Aside0.mk A50
    clear A50
    by_cases c6 : t132 = true
    · subst c6
      have H1 : ((dns_Name.f a1).bind fun t133 => (host_Holds.j0 k a0 a1 t130 t131 (!t133))) = some r := by rw [if_pos rfl] at H; exact H
      clear H
      have H := H1
      clear H1
      replace H := Option.bind_eq_some_iff.mp H
      obtain ⟨t133, A70, H⟩ := H
      replace H : (host_Holds.j0 k a0 a1 t130 t131 (!t133)) = some r := H
      have A7 := Aside0.mk A70
      clear A70
      have H' := Aside0.mk H
      clear H
      go_wp2_with (first | ((with_reducible refine gate_callee (f := 12) rfl ?_); refine goesL_ (some 14) rfl rfl Tryd.func12 (by kernel_rfl) rfl #[.string a0] rfl (by (try simp only [List.map_toArray, List.map_cons, List.map_nil]); first | done | rfl | (simp only [List.length_drop, List.length_take]; rfl)) ?_; (with_reducible refine (host_May.calls a0 true _ A5.out).mono ?_); rintro e w8 ⟨rfl, hb⟩; refine ⟨_, rfl, ?_⟩; have n0_ := Aside0.mk (below_step (by repeat (first | (with_reducible first | exact HB.out | apply below_alloc | apply pw_below_drewN | apply below_drew1) | exact HB.out)) hb); clear HB; have HB := n0_; clear n0_; (try clear hb); (try clear hb2); (try clear hk); (try clear hi)) | (go_at_call 28; (with_reducible refine (dns_Name.calls a1 t133 _ A7.out).mono ?_); rintro e w9 ⟨rfl, hb⟩; have n0_ := Aside0.mk (below_step (by repeat (first | (with_reducible first | exact HB.out | apply below_alloc | apply pw_below_drewN | apply below_drew1) | exact HB.out)) hb); clear HB; have HB := n0_; clear n0_; (try clear hb); (try clear hb2); (try clear hk); (try clear hi)))
      go_meet
      case rel => exact ⟨_, (!t133), (by first | rfl | (simp; done) | (simp [*]; done) | (simp [bne_nil_isEmpty, beq_nil_isEmpty]; done) | (simp [*, bne_nil_isEmpty, beq_nil_isEmpty]; done)), H', ⟨by first | omega | exact Nat.le_refl _⟩, ⟨by repeat (first | (with_reducible first | exact HB.out | apply below_alloc | apply pw_below_drewN | apply below_drew1) | exact HB.out)⟩⟩
    · replace c6 := Bool.eq_false_iff.mpr c6
      subst c6
      have H1 : (host_Holds.j0 k a0 a1 t130 t131 true) = some r := by rw [if_neg (show ¬ (false = true) by decide)] at H; exact H
      clear H
      have H := H1
      clear H1
      have H' := Aside0.mk H
      clear H
      go_wp2_with (first | ((with_reducible refine gate_callee (f := 12) rfl ?_); refine goesL_ (some 14) rfl rfl Tryd.func12 (by kernel_rfl) rfl #[.string a0] rfl (by (try simp only [List.map_toArray, List.map_cons, List.map_nil]); first | done | rfl | (simp only [List.length_drop, List.length_take]; rfl)) ?_; (with_reducible refine (host_May.calls a0 false _ A5.out).mono ?_); rintro e w10 ⟨rfl, hb⟩; refine ⟨_, rfl, ?_⟩; have n0_ := Aside0.mk (below_step (by repeat (first | (with_reducible first | exact HB.out | apply below_alloc | apply pw_below_drewN | apply below_drew1) | exact HB.out)) hb); clear HB; have HB := n0_; clear n0_; (try clear hb); (try clear hb2); (try clear hk); (try clear hi)))
      go_meet
      case rel => exact ⟨_, (true), (by first | rfl | (simp; done) | (simp [*]; done) | (simp [bne_nil_isEmpty, beq_nil_isEmpty]; done) | (simp [*, bne_nil_isEmpty, beq_nil_isEmpty]; done)), H', ⟨by first | omega | exact Nat.le_refl _⟩, ⟨by repeat (first | (with_reducible first | exact HB.out | apply below_alloc | apply pw_below_drewN | apply below_drew1) | exact HB.out)⟩⟩
  case rest =>
    clear HC4
    try clear c1
    try clear c2
    try clear p2
    try clear c6
    obtain ⟨kq, x12_3, rfl, HA, HJ3, HB⟩ := hcut
    cases kq with
    | zero => exact absurd HA.out (by simp [host_Holds.j0])
    | succ kj3 =>
      have H := HA.out
      clear HA
      simp only [host_Holds.j0] at H
      by_cases c11 : x12_3 = true
      · subst c11
        have H1 : (some false) = some r := by rw [if_pos rfl] at H; exact H
        clear H
        have H := H1
        clear H1
        obtain rfl := Option.some.inj H
        go_wp2
        go_ret
        exact ⟨by first | rfl | (simp [errW_none, errW_some] <;> rfl) | (simp [*, errW_none, errW_some] <;> rfl), by repeat (first | (with_reducible first | exact HB.out | apply below_alloc | apply pw_below_drewN | apply below_drew1) | exact HB.out)⟩
      · replace c11 := Bool.eq_false_iff.mpr c11
        subst c11
        have H1 : (if a0.toList = ([] : List UInt8) then (some true) else (if t131 = true then ((dns_Under.f a1 t130).bind fun t134 => (some t134)) else (some (a0.toList == a1.toList)))) = some r := by rw [if_neg (show ¬ (false = true) by decide)] at H; exact H
        clear H
        have H := H1
        clear H1
        by_cases c12 : a0.toList = ([] : List UInt8)
        · rw [if_pos c12] at H
          have c12b0 : (a0.toList == ([] : List UInt8)) = true := beq_iff_eq.mpr c12
          have c12b1 : (a0.toList != ([] : List UInt8)) = false := bne_eq_false_iff_eq.mpr c12
          clear c12
          obtain rfl := Option.some.inj H
          go_wp2
          go_ret
          exact ⟨by first | rfl | (simp [errW_none, errW_some] <;> rfl) | (simp [*, errW_none, errW_some] <;> rfl), by repeat (first | (with_reducible first | exact HB.out | apply below_alloc | apply pw_below_drewN | apply below_drew1) | exact HB.out)⟩
        · rw [if_neg c12] at H
          have c12b0 : (a0.toList == ([] : List UInt8)) = false := beq_eq_false_iff_ne.mpr c12
          have c12b1 : (a0.toList != ([] : List UInt8)) = true := bne_iff_ne.mpr c12
          by_cases c13 : t131 = true
          · subst c13
            have H1 : ((dns_Under.f a1 t130).bind fun t134 => (some t134)) = some r := by rw [if_pos rfl] at H; exact H
            clear H
            have H := H1
            clear H1
            replace H := Option.bind_eq_some_iff.mp H
            obtain ⟨t134, A140, H⟩ := H
            replace H : (some t134) = some r := H
            have A14 := Aside0.mk A140
            clear A140
            obtain rfl := Option.some.inj H
            go_wp2_with (first | ((with_reducible refine gate_callee (f := 30) rfl ?_); refine goesL_ (some 28) rfl rfl Tryd.func30 (by kernel_rfl) rfl #[.string a1, .string t130] rfl (by (try simp only [List.map_toArray, List.map_cons, List.map_nil]); first | done | rfl | (simp only [List.length_drop, List.length_take]; rfl)) ?_; (with_reducible refine (dns_Under.calls a1 t130 t134 _ A14.out).mono ?_); rintro e w15 ⟨rfl, hb⟩; refine ⟨_, rfl, ?_⟩; have n0_ := Aside0.mk (below_step (by repeat (first | (with_reducible first | exact HB.out | apply below_alloc | apply pw_below_drewN | apply below_drew1) | exact HB.out)) hb); clear HB; have HB := n0_; clear n0_; (try clear hb); (try clear hb2); (try clear hk); (try clear hi)))
            go_ret
            exact ⟨by first | rfl | (simp [errW_none, errW_some] <;> rfl) | (simp [*, errW_none, errW_some] <;> rfl), by repeat (first | (with_reducible first | exact HB.out | apply below_alloc | apply pw_below_drewN | apply below_drew1) | exact HB.out)⟩
          · replace c13 := Bool.eq_false_iff.mpr c13
            subst c13
            have H1 : (some (a0.toList == a1.toList)) = some r := by rw [if_neg (show ¬ (false = true) by decide)] at H; exact H
            clear H
            have H := H1
            clear H1
            obtain rfl := Option.some.inj H
            go_wp2
            go_ret
            exact ⟨by first | rfl | (simp [errW_none, errW_some] <;> rfl) | (simp [*, errW_none, errW_some] <;> rfl), by repeat (first | (with_reducible first | exact HB.out | apply below_alloc | apply pw_below_drewN | apply below_drew1) | exact HB.out)⟩

/-! ### tollref01_Under: function 31 -/
mutual
def tollref01_Under.j0 : Nat → ByteArray → ByteArray → Bool → Option (Bool)
  | 0, _, _, _ => none
  | k + 1, x0, x1, x15 => if x15 = true then (some false) else ((tollref01_Split.f k x0 46).bind fun t137 => ((tollref01_Split.f k x1 46).bind fun t140 => (if (t137.length : Int) ≤ (t140.length : Int) then (some false) else (tollref01_Under.l0 k t137 t140 0))))
def tollref01_Under.l0 : Nat → List ByteArray → List ByteArray → Int → Option (Bool)
  | 0, _, _, _ => none
  | k + 1, x5, x6, x7 => if x7 < (x6.length : Int) then (if 0 ≤ (wrap64 ((wrap64 ((x5.length : Int) - 1)) - x7)) then (if (wrap64 ((wrap64 ((x5.length : Int) - 1)) - x7)) < (x5.length : Int) then (if 0 ≤ (wrap64 ((wrap64 ((x6.length : Int) - 1)) - x7)) then (if (wrap64 ((wrap64 ((x6.length : Int) - 1)) - x7)) < (x6.length : Int) then (if (rdOf ByteArray.empty x5 (wrap64 ((wrap64 ((x5.length : Int) - 1)) - x7))).toList = (rdOf ByteArray.empty x6 (wrap64 ((wrap64 ((x6.length : Int) - 1)) - x7))).toList then (tollref01_Under.l0 k x5 x6 (wrap64 (x7 + 1))) else (some false)) else (none)) else (none)) else (none)) else (none)) else (some true)
end
def tollref01_Under.f (k : Nat) (a0 : ByteArray) (a1 : ByteArray) : Option (Bool) := (tollref01_Name.f k a0).bind fun t135 => (if t135 = true then ((tollref01_Name.f k a1).bind fun t136 => (tollref01_Under.j0 k a0 a1 (!t136))) else (tollref01_Under.j0 k a0 a1 true))
theorem tollref01_Under.mono_l : ∀ k, (∀ y0 y1 y2, LeO (tollref01_Under.j0 k y0 y1 y2) (tollref01_Under.j0 (k + 1) y0 y1 y2)) ∧ (∀ y0 y1 y2, LeO (tollref01_Under.l0 k y0 y1 y2) (tollref01_Under.l0 (k + 1) y0 y1 y2))
  | 0 => ⟨fun _ _ _ r h => by simp [tollref01_Under.j0] at h, fun _ _ _ r h => by simp [tollref01_Under.l0] at h⟩
  | k + 1 => by
    obtain ⟨ih0, ih1⟩ := tollref01_Under.mono_l k
    refine ⟨?_, ?_⟩
    · intro y0 y1 y2
      unfold tollref01_Under.j0
      repeat' first
      | (with_reducible exact ih0 _ _ _)
      | (with_reducible exact ih1 _ _ _)
      | (with_reducible exact tollref01_Name.mono _ _)
      | (with_reducible exact tollref01_Split.mono _ _ _)
      | (with_reducible exact LeO.refl _)
      | (with_reducible exact LeO.none _)
      | (with_reducible refine LeO.ite ?_ ?_)
      | (with_reducible refine LeO.bind ?_ (fun _ => ?_))
      | exact ih0 _ _ _
      | exact ih1 _ _ _
      | exact tollref01_Name.mono _ _
      | exact tollref01_Split.mono _ _ _
      | exact LeO.none _
      | refine LeO.ite ?_ ?_
      | refine LeO.bind ?_ (fun _ => ?_)
    · intro y0 y1 y2
      unfold tollref01_Under.l0
      repeat' first
      | (with_reducible exact ih0 _ _ _)
      | (with_reducible exact ih1 _ _ _)
      | (with_reducible exact tollref01_Name.mono _ _)
      | (with_reducible exact tollref01_Split.mono _ _ _)
      | (with_reducible exact LeO.refl _)
      | (with_reducible exact LeO.none _)
      | (with_reducible refine LeO.ite ?_ ?_)
      | (with_reducible refine LeO.bind ?_ (fun _ => ?_))
      | exact ih0 _ _ _
      | exact ih1 _ _ _
      | exact tollref01_Name.mono _ _
      | exact tollref01_Split.mono _ _ _
      | exact LeO.none _
      | refine LeO.ite ?_ ?_
      | refine LeO.bind ?_ (fun _ => ?_)
theorem tollref01_Under.mono : ∀ a0 a1 k, LeO (tollref01_Under.f k a0 a1) (tollref01_Under.f (k + 1) a0 a1) := by
  intro a0 a1 k
  obtain ⟨ih0, ih1⟩ := tollref01_Under.mono_l k
  unfold tollref01_Under.f
  repeat' first
      | (with_reducible exact ih0 _ _ _)
      | (with_reducible exact ih1 _ _ _)
      | (with_reducible exact tollref01_Name.mono _ _)
      | (with_reducible exact tollref01_Split.mono _ _ _)
      | (with_reducible exact LeO.refl _)
      | (with_reducible exact LeO.none _)
      | (with_reducible refine LeO.ite ?_ ?_)
      | (with_reducible refine LeO.bind ?_ (fun _ => ?_))
      | exact ih0 _ _ _
      | exact ih1 _ _ _
      | exact tollref01_Name.mono _ _
      | exact tollref01_Split.mono _ _ _
      | exact LeO.none _
      | refine LeO.ite ?_ ?_
      | refine LeO.bind ?_ (fun _ => ?_)
set_option maxHeartbeats 8000000 in
set_option maxRecDepth 100000 in
theorem tollref01_Under.calls (k : Nat) (a0 : ByteArray) (a1 : ByteArray) (r : Bool) (w : World) (h : tollref01_Under.f k a0 a1 = some r) :
    Calls Tryd.prog 31 #[.string a0, .string a1] w fun e w' => e = .returned (.bool r) ∧ Below w.heap.size w w' := by
  have HB := Aside0.mk (Below.refl w.heap.size w)
  have H : ((tollref01_Name.f k a0).bind fun t135 => (if t135 = true then ((tollref01_Name.f k a1).bind fun t136 => (tollref01_Under.j0 k a0 a1 (!t136))) else (tollref01_Under.j0 k a0 a1 true))) = some r := h
  clear h
  have HC3 := Aside0.mk H
  clear H
  go_enter Tryd.func31, Tryd.ntmps31
  go_upto_region 1 with (fail)
  repeat (go_quiet (fail); go_upto_region 1 with (fail))
  go_cut [15] (fun v15 wc => ∃ (kq : Nat) (x15_2 : Bool), v15 = .bool x15_2 ∧ Aside0 (tollref01_Under.j0 kq a0 a1 x15_2 = some r) ∧ Aside0 (kq ≤ k) ∧ Aside0 (Below w.heap.size w wc))
  case first =>
    have H := HC3.out
    clear HC3
    replace H := Option.bind_eq_some_iff.mp H
    obtain ⟨t135, A40, H⟩ := H
    replace H : (if t135 = true then ((tollref01_Name.f k a1).bind fun t136 => (tollref01_Under.j0 k a0 a1 (!t136))) else (tollref01_Under.j0 k a0 a1 true)) = some r := H
    have A4 := Aside0.mk A40
    clear A40
    by_cases c5 : t135 = true
    · subst c5
      have H1 : ((tollref01_Name.f k a1).bind fun t136 => (tollref01_Under.j0 k a0 a1 (!t136))) = some r := by rw [if_pos rfl] at H; exact H
      clear H
      have H := H1
      clear H1
      replace H := Option.bind_eq_some_iff.mp H
      obtain ⟨t136, A60, H⟩ := H
      replace H : (tollref01_Under.j0 k a0 a1 (!t136)) = some r := H
      have A6 := Aside0.mk A60
      clear A60
      have H' := Aside0.mk H
      clear H
      go_wp2_with (first | (go_at_call 18; (with_reducible refine (tollref01_Name.calls k a0 true _ A4.out).mono ?_); rintro e w7 ⟨rfl, hb⟩; have n0_ := Aside0.mk (below_step (by repeat (first | (with_reducible first | exact HB.out | apply below_alloc | apply pw_below_drewN | apply below_drew1) | exact HB.out)) hb); clear HB; have HB := n0_; clear n0_; (try clear hb); (try clear hb2); (try clear hk); (try clear hi)) | (go_at_call 18; (with_reducible refine (tollref01_Name.calls k a1 t136 _ A6.out).mono ?_); rintro e w8 ⟨rfl, hb⟩; have n0_ := Aside0.mk (below_step (by repeat (first | (with_reducible first | exact HB.out | apply below_alloc | apply pw_below_drewN | apply below_drew1) | exact HB.out)) hb); clear HB; have HB := n0_; clear n0_; (try clear hb); (try clear hb2); (try clear hk); (try clear hi)))
      repeat (go_quiet (first | (go_at_call 18; (with_reducible refine (tollref01_Name.calls k a0 true _ A4.out).mono ?_); rintro e w7 ⟨rfl, hb⟩; have n0_ := Aside0.mk (below_step (by repeat (first | (with_reducible first | exact HB.out | apply below_alloc | apply pw_below_drewN | apply below_drew1) | exact HB.out)) hb); clear HB; have HB := n0_; clear n0_; (try clear hb); (try clear hb2); (try clear hk); (try clear hi)) | (go_at_call 18; (with_reducible refine (tollref01_Name.calls k a1 t136 _ A6.out).mono ?_); rintro e w8 ⟨rfl, hb⟩; have n0_ := Aside0.mk (below_step (by repeat (first | (with_reducible first | exact HB.out | apply below_alloc | apply pw_below_drewN | apply below_drew1) | exact HB.out)) hb); clear HB; have HB := n0_; clear n0_; (try clear hb); (try clear hb2); (try clear hk); (try clear hi))); try go_wp2_with (first | (go_at_call 18; (with_reducible refine (tollref01_Name.calls k a0 true _ A4.out).mono ?_); rintro e w7 ⟨rfl, hb⟩; have n0_ := Aside0.mk (below_step (by repeat (first | (with_reducible first | exact HB.out | apply below_alloc | apply pw_below_drewN | apply below_drew1) | exact HB.out)) hb); clear HB; have HB := n0_; clear n0_; (try clear hb); (try clear hb2); (try clear hk); (try clear hi)) | (go_at_call 18; (with_reducible refine (tollref01_Name.calls k a1 t136 _ A6.out).mono ?_); rintro e w8 ⟨rfl, hb⟩; have n0_ := Aside0.mk (below_step (by repeat (first | (with_reducible first | exact HB.out | apply below_alloc | apply pw_below_drewN | apply below_drew1) | exact HB.out)) hb); clear HB; have HB := n0_; clear n0_; (try clear hb); (try clear hb2); (try clear hk); (try clear hi))))
      go_meet
      case rel => exact ⟨_, (!t136), (by first | rfl | (simp; done) | (simp [*]; done) | (simp [bne_nil_isEmpty, beq_nil_isEmpty]; done) | (simp [*, bne_nil_isEmpty, beq_nil_isEmpty]; done)), H', ⟨by first | omega | exact Nat.le_refl _⟩, ⟨by repeat (first | (with_reducible first | exact HB.out | apply below_alloc | apply pw_below_drewN | apply below_drew1) | exact HB.out)⟩⟩
    · replace c5 := Bool.eq_false_iff.mpr c5
      subst c5
      have H1 : (tollref01_Under.j0 k a0 a1 true) = some r := by rw [if_neg (show ¬ (false = true) by decide)] at H; exact H
      clear H
      have H := H1
      clear H1
      have H' := Aside0.mk H
      clear H
      go_wp2_with (first | (go_at_call 18; (with_reducible refine (tollref01_Name.calls k a0 false _ A4.out).mono ?_); rintro e w9 ⟨rfl, hb⟩; have n0_ := Aside0.mk (below_step (by repeat (first | (with_reducible first | exact HB.out | apply below_alloc | apply pw_below_drewN | apply below_drew1) | exact HB.out)) hb); clear HB; have HB := n0_; clear n0_; (try clear hb); (try clear hb2); (try clear hk); (try clear hi)))
      repeat (go_quiet (first | (go_at_call 18; (with_reducible refine (tollref01_Name.calls k a0 false _ A4.out).mono ?_); rintro e w9 ⟨rfl, hb⟩; have n0_ := Aside0.mk (below_step (by repeat (first | (with_reducible first | exact HB.out | apply below_alloc | apply pw_below_drewN | apply below_drew1) | exact HB.out)) hb); clear HB; have HB := n0_; clear n0_; (try clear hb); (try clear hb2); (try clear hk); (try clear hi))); try go_wp2_with (first | (go_at_call 18; (with_reducible refine (tollref01_Name.calls k a0 false _ A4.out).mono ?_); rintro e w9 ⟨rfl, hb⟩; have n0_ := Aside0.mk (below_step (by repeat (first | (with_reducible first | exact HB.out | apply below_alloc | apply pw_below_drewN | apply below_drew1) | exact HB.out)) hb); clear HB; have HB := n0_; clear n0_; (try clear hb); (try clear hb2); (try clear hk); (try clear hi))))
      go_meet
      case rel => exact ⟨_, (true), (by first | rfl | (simp; done) | (simp [*]; done) | (simp [bne_nil_isEmpty, beq_nil_isEmpty]; done) | (simp [*, bne_nil_isEmpty, beq_nil_isEmpty]; done)), H', ⟨by first | omega | exact Nat.le_refl _⟩, ⟨by repeat (first | (with_reducible first | exact HB.out | apply below_alloc | apply pw_below_drewN | apply below_drew1) | exact HB.out)⟩⟩
  case rest =>
    clear HC3
    try clear p2
    try clear c3
    try clear c5
    obtain ⟨kq, x15_2, rfl, HA, HJ2, HB⟩ := hcut
    cases kq with
    | zero => exact absurd HA.out (by simp [tollref01_Under.j0])
    | succ kj2 =>
      have H := HA.out
      clear HA
      simp only [tollref01_Under.j0] at H
      by_cases c10 : x15_2 = true
      · subst c10
        have H1 : (some false) = some r := by rw [if_pos rfl] at H; exact H
        clear H
        have H := H1
        clear H1
        obtain rfl := Option.some.inj H
        go_wp2
        repeat (go_quiet (fail); try go_wp2)
        go_ret
        exact ⟨by first | rfl | (simp [errW_none, errW_some] <;> rfl) | (simp [*, errW_none, errW_some] <;> rfl), by repeat (first | (with_reducible first | exact HB.out | apply below_alloc | apply pw_below_drewN | apply below_drew1) | exact HB.out)⟩
      · replace c10 := Bool.eq_false_iff.mpr c10
        subst c10
        have H1 : ((tollref01_Split.f kj2 a0 46).bind fun t137 => ((tollref01_Split.f kj2 a1 46).bind fun t140 => (if (t137.length : Int) ≤ (t140.length : Int) then (some false) else (tollref01_Under.l0 kj2 t137 t140 0)))) = some r := by rw [if_neg (show ¬ (false = true) by decide)] at H; exact H
        clear H
        have H := H1
        clear H1
        replace H := Option.bind_eq_some_iff.mp H
        obtain ⟨t137, A110, H⟩ := H
        replace H : ((tollref01_Split.f kj2 a1 46).bind fun t140 => (if (t137.length : Int) ≤ (t140.length : Int) then (some false) else (tollref01_Under.l0 kj2 t137 t140 0))) = some r := H
        have A11 := Aside0.mk A110
        clear A110
        replace H := Option.bind_eq_some_iff.mp H
        obtain ⟨t140, A120, H⟩ := H
        replace H : (if (t137.length : Int) ≤ (t140.length : Int) then (some false) else (tollref01_Under.l0 kj2 t137 t140 0)) = some r := H
        have A12 := Aside0.mk A120
        clear A120
        by_cases c13 : (t137.length : Int) ≤ (t140.length : Int)
        · rw [if_pos c13] at H
          have c13b0 : decide ((t137.length : Int) ≤ (t140.length : Int)) = true := decide_eq_true c13
          have c13b1 : decide (t137.length ≤ t140.length) = true := decide_eq_true (Int.ofNat_le.mp c13)
          clear c13
          obtain rfl := Option.some.inj H
          go_wp2_with (first | (go_at_call 33; (with_reducible refine (tollref01_Split.calls kj2 a0 46 t137 _ A11.out).mono ?_); rintro e w14 ⟨v138, rfl, ho0, hb⟩; have n0_ := Aside0.mk (Kd.R_lower ho0 (below_size (by repeat (first | (with_reducible first | exact HB.out | apply below_alloc | apply pw_below_drewN | apply below_drew1) | exact HB.out)))); have n1_ := Aside0.mk (below_step (by repeat (first | (with_reducible first | exact HB.out | apply below_alloc | apply pw_below_drewN | apply below_drew1) | exact HB.out)) hb); clear HB; have HO139 := n0_; have HB := n1_; clear n0_ n1_; (try clear hb); (try clear hb2); (try clear hk); (try clear hi); (try clear ho0)) | (go_at_call 33; (with_reducible refine (tollref01_Split.calls kj2 a1 46 t140 _ A12.out).mono ?_); rintro e w15 ⟨v141, rfl, ho0, hb⟩; have n0_ := Aside0.mk (Kd.R_elder' (by (with_reducible repeat (first | apply Kd.R_alloc | apply Kd.R_drewN | apply Kd.R_drew)); exact HO139.out) (Kd.R_base ho0) hb); have n1_ := Aside0.mk (Kd.R_lower (Kd.R_new' ho0 (Kd.R_lt (by (with_reducible repeat (first | apply Kd.R_alloc | apply Kd.R_drewN | apply Kd.R_drew)); exact HO139.out))) (below_size (by repeat (first | (with_reducible first | exact HB.out | apply below_alloc | apply pw_below_drewN | apply below_drew1) | exact HB.out)))); have n2_ := Aside0.mk (below_step (by repeat (first | (with_reducible first | exact HB.out | apply below_alloc | apply pw_below_drewN | apply below_drew1) | exact HB.out)) hb); clear HO139; clear HB; have HO139 := n0_; have HO142 := n1_; have HB := n2_; clear n0_ n1_ n2_; (try clear hb); (try clear hb2); (try clear hk); (try clear hi); (try clear ho0); obtain ⟨Ao16, co16, eo16⟩ := Kd.R_slice HO139.out; subst eo16; obtain ⟨Ao17, co17, eo17⟩ := Kd.R_slice HO142.out; subst eo17))
          repeat (go_quiet (first | (go_at_call 33; (with_reducible refine (tollref01_Split.calls kj2 a0 46 t137 _ A11.out).mono ?_); rintro e w14 ⟨v138, rfl, ho0, hb⟩; have n0_ := Aside0.mk (Kd.R_lower ho0 (below_size (by repeat (first | (with_reducible first | exact HB.out | apply below_alloc | apply pw_below_drewN | apply below_drew1) | exact HB.out)))); have n1_ := Aside0.mk (below_step (by repeat (first | (with_reducible first | exact HB.out | apply below_alloc | apply pw_below_drewN | apply below_drew1) | exact HB.out)) hb); clear HB; have HO139 := n0_; have HB := n1_; clear n0_ n1_; (try clear hb); (try clear hb2); (try clear hk); (try clear hi); (try clear ho0)) | (go_at_call 33; (with_reducible refine (tollref01_Split.calls kj2 a1 46 t140 _ A12.out).mono ?_); rintro e w15 ⟨v141, rfl, ho0, hb⟩; have n0_ := Aside0.mk (Kd.R_elder' (by (with_reducible repeat (first | apply Kd.R_alloc | apply Kd.R_drewN | apply Kd.R_drew)); exact HO139.out) (Kd.R_base ho0) hb); have n1_ := Aside0.mk (Kd.R_lower (Kd.R_new' ho0 (Kd.R_lt (by (with_reducible repeat (first | apply Kd.R_alloc | apply Kd.R_drewN | apply Kd.R_drew)); exact HO139.out))) (below_size (by repeat (first | (with_reducible first | exact HB.out | apply below_alloc | apply pw_below_drewN | apply below_drew1) | exact HB.out)))); have n2_ := Aside0.mk (below_step (by repeat (first | (with_reducible first | exact HB.out | apply below_alloc | apply pw_below_drewN | apply below_drew1) | exact HB.out)) hb); clear HO139; clear HB; have HO139 := n0_; have HO142 := n1_; have HB := n2_; clear n0_ n1_ n2_; (try clear hb); (try clear hb2); (try clear hk); (try clear hi); (try clear ho0); obtain ⟨Ao16, co16, eo16⟩ := Kd.R_slice HO139.out; subst eo16; obtain ⟨Ao17, co17, eo17⟩ := Kd.R_slice HO142.out; subst eo17)); try go_wp2_with (first | (go_at_call 33; (with_reducible refine (tollref01_Split.calls kj2 a0 46 t137 _ A11.out).mono ?_); rintro e w14 ⟨v138, rfl, ho0, hb⟩; have n0_ := Aside0.mk (Kd.R_lower ho0 (below_size (by repeat (first | (with_reducible first | exact HB.out | apply below_alloc | apply pw_below_drewN | apply below_drew1) | exact HB.out)))); have n1_ := Aside0.mk (below_step (by repeat (first | (with_reducible first | exact HB.out | apply below_alloc | apply pw_below_drewN | apply below_drew1) | exact HB.out)) hb); clear HB; have HO139 := n0_; have HB := n1_; clear n0_ n1_; (try clear hb); (try clear hb2); (try clear hk); (try clear hi); (try clear ho0)) | (go_at_call 33; (with_reducible refine (tollref01_Split.calls kj2 a1 46 t140 _ A12.out).mono ?_); rintro e w15 ⟨v141, rfl, ho0, hb⟩; have n0_ := Aside0.mk (Kd.R_elder' (by (with_reducible repeat (first | apply Kd.R_alloc | apply Kd.R_drewN | apply Kd.R_drew)); exact HO139.out) (Kd.R_base ho0) hb); have n1_ := Aside0.mk (Kd.R_lower (Kd.R_new' ho0 (Kd.R_lt (by (with_reducible repeat (first | apply Kd.R_alloc | apply Kd.R_drewN | apply Kd.R_drew)); exact HO139.out))) (below_size (by repeat (first | (with_reducible first | exact HB.out | apply below_alloc | apply pw_below_drewN | apply below_drew1) | exact HB.out)))); have n2_ := Aside0.mk (below_step (by repeat (first | (with_reducible first | exact HB.out | apply below_alloc | apply pw_below_drewN | apply below_drew1) | exact HB.out)) hb); clear HO139; clear HB; have HO139 := n0_; have HO142 := n1_; have HB := n2_; clear n0_ n1_ n2_; (try clear hb); (try clear hb2); (try clear hk); (try clear hi); (try clear ho0); obtain ⟨Ao16, co16, eo16⟩ := Kd.R_slice HO139.out; subst eo16; obtain ⟨Ao17, co17, eo17⟩ := Kd.R_slice HO142.out; subst eo17)))
          go_ret
          exact ⟨by first | rfl | (simp [errW_none, errW_some] <;> rfl) | (simp [*, errW_none, errW_some] <;> rfl), by repeat (first | (with_reducible first | exact HB.out | apply below_alloc | apply pw_below_drewN | apply below_drew1) | exact HB.out)⟩
        · rw [if_neg c13] at H
          have c13b0 : decide ((t137.length : Int) ≤ (t140.length : Int)) = false := decide_eq_false c13
          have c13b1 : decide (t137.length ≤ t140.length) = false := decide_eq_false (fun h => c13 (Int.ofNat_le.mpr h))
          clear c13
          have H' := Aside0.mk H
          clear H
          go_wp2_with (first | (go_at_call 33; (with_reducible refine (tollref01_Split.calls kj2 a0 46 t137 _ A11.out).mono ?_); rintro e w18 ⟨v138, rfl, ho0, hb⟩; have n0_ := Aside0.mk (Kd.R_lower ho0 (below_size (by repeat (first | (with_reducible first | exact HB.out | apply below_alloc | apply pw_below_drewN | apply below_drew1) | exact HB.out)))); have n1_ := Aside0.mk (below_step (by repeat (first | (with_reducible first | exact HB.out | apply below_alloc | apply pw_below_drewN | apply below_drew1) | exact HB.out)) hb); clear HB; have HO139 := n0_; have HB := n1_; clear n0_ n1_; (try clear hb); (try clear hb2); (try clear hk); (try clear hi); (try clear ho0)) | (go_at_call 33; (with_reducible refine (tollref01_Split.calls kj2 a1 46 t140 _ A12.out).mono ?_); rintro e w19 ⟨v141, rfl, ho0, hb⟩; have n0_ := Aside0.mk (Kd.R_elder' (by (with_reducible repeat (first | apply Kd.R_alloc | apply Kd.R_drewN | apply Kd.R_drew)); exact HO139.out) (Kd.R_base ho0) hb); have n1_ := Aside0.mk (Kd.R_lower (Kd.R_new' ho0 (Kd.R_lt (by (with_reducible repeat (first | apply Kd.R_alloc | apply Kd.R_drewN | apply Kd.R_drew)); exact HO139.out))) (below_size (by repeat (first | (with_reducible first | exact HB.out | apply below_alloc | apply pw_below_drewN | apply below_drew1) | exact HB.out)))); have n2_ := Aside0.mk (below_step (by repeat (first | (with_reducible first | exact HB.out | apply below_alloc | apply pw_below_drewN | apply below_drew1) | exact HB.out)) hb); clear HO139; clear HB; have HO139 := n0_; have HO142 := n1_; have HB := n2_; clear n0_ n1_ n2_; (try clear hb); (try clear hb2); (try clear hk); (try clear hi); (try clear ho0); obtain ⟨Ao20, co20, eo20⟩ := Kd.R_slice HO139.out; subst eo20; obtain ⟨Ao21, co21, eo21⟩ := Kd.R_slice HO142.out; subst eo21))
          repeat (go_quiet (first | (go_at_call 33; (with_reducible refine (tollref01_Split.calls kj2 a0 46 t137 _ A11.out).mono ?_); rintro e w18 ⟨v138, rfl, ho0, hb⟩; have n0_ := Aside0.mk (Kd.R_lower ho0 (below_size (by repeat (first | (with_reducible first | exact HB.out | apply below_alloc | apply pw_below_drewN | apply below_drew1) | exact HB.out)))); have n1_ := Aside0.mk (below_step (by repeat (first | (with_reducible first | exact HB.out | apply below_alloc | apply pw_below_drewN | apply below_drew1) | exact HB.out)) hb); clear HB; have HO139 := n0_; have HB := n1_; clear n0_ n1_; (try clear hb); (try clear hb2); (try clear hk); (try clear hi); (try clear ho0)) | (go_at_call 33; (with_reducible refine (tollref01_Split.calls kj2 a1 46 t140 _ A12.out).mono ?_); rintro e w19 ⟨v141, rfl, ho0, hb⟩; have n0_ := Aside0.mk (Kd.R_elder' (by (with_reducible repeat (first | apply Kd.R_alloc | apply Kd.R_drewN | apply Kd.R_drew)); exact HO139.out) (Kd.R_base ho0) hb); have n1_ := Aside0.mk (Kd.R_lower (Kd.R_new' ho0 (Kd.R_lt (by (with_reducible repeat (first | apply Kd.R_alloc | apply Kd.R_drewN | apply Kd.R_drew)); exact HO139.out))) (below_size (by repeat (first | (with_reducible first | exact HB.out | apply below_alloc | apply pw_below_drewN | apply below_drew1) | exact HB.out)))); have n2_ := Aside0.mk (below_step (by repeat (first | (with_reducible first | exact HB.out | apply below_alloc | apply pw_below_drewN | apply below_drew1) | exact HB.out)) hb); clear HO139; clear HB; have HO139 := n0_; have HO142 := n1_; have HB := n2_; clear n0_ n1_ n2_; (try clear hb); (try clear hb2); (try clear hk); (try clear hi); (try clear ho0); obtain ⟨Ao20, co20, eo20⟩ := Kd.R_slice HO139.out; subst eo20; obtain ⟨Ao21, co21, eo21⟩ := Kd.R_slice HO142.out; subst eo21)); try go_wp2_with (first | (go_at_call 33; (with_reducible refine (tollref01_Split.calls kj2 a0 46 t137 _ A11.out).mono ?_); rintro e w18 ⟨v138, rfl, ho0, hb⟩; have n0_ := Aside0.mk (Kd.R_lower ho0 (below_size (by repeat (first | (with_reducible first | exact HB.out | apply below_alloc | apply pw_below_drewN | apply below_drew1) | exact HB.out)))); have n1_ := Aside0.mk (below_step (by repeat (first | (with_reducible first | exact HB.out | apply below_alloc | apply pw_below_drewN | apply below_drew1) | exact HB.out)) hb); clear HB; have HO139 := n0_; have HB := n1_; clear n0_ n1_; (try clear hb); (try clear hb2); (try clear hk); (try clear hi); (try clear ho0)) | (go_at_call 33; (with_reducible refine (tollref01_Split.calls kj2 a1 46 t140 _ A12.out).mono ?_); rintro e w19 ⟨v141, rfl, ho0, hb⟩; have n0_ := Aside0.mk (Kd.R_elder' (by (with_reducible repeat (first | apply Kd.R_alloc | apply Kd.R_drewN | apply Kd.R_drew)); exact HO139.out) (Kd.R_base ho0) hb); have n1_ := Aside0.mk (Kd.R_lower (Kd.R_new' ho0 (Kd.R_lt (by (with_reducible repeat (first | apply Kd.R_alloc | apply Kd.R_drewN | apply Kd.R_drew)); exact HO139.out))) (below_size (by repeat (first | (with_reducible first | exact HB.out | apply below_alloc | apply pw_below_drewN | apply below_drew1) | exact HB.out)))); have n2_ := Aside0.mk (below_step (by repeat (first | (with_reducible first | exact HB.out | apply below_alloc | apply pw_below_drewN | apply below_drew1) | exact HB.out)) hb); clear HO139; clear HB; have HO139 := n0_; have HO142 := n1_; have HB := n2_; clear n0_ n1_ n2_; (try clear hb); (try clear hb2); (try clear hk); (try clear hi); (try clear ho0); obtain ⟨Ao20, co20, eo20⟩ := Kd.R_slice HO139.out; subst eo20; obtain ⟨Ao21, co21, eo21⟩ := Kd.R_slice HO142.out; subst eo21)))
          go_loopg [7] kj2 (fun kq v7 w' => ∃ (x7_2 : Int), v7 = .int .i64 x7_2 ∧ Aside0 (tollref01_Under.l0 kq t137 t140 x7_2 = some r) ∧ Aside0 (kq ≤ kj2) ∧ Aside0 (Kd.R Kd.string 9 w' w.heap.size (fun k_ => some k_ ≠ ((.slice Ao21 t140.length co21) : Value).ownBlock) (.slice Ao20 t137.length co20) t137) ∧ Aside0 (Kd.R Kd.string 9 w' w.heap.size (fun k_ => some k_ ≠ ((.slice Ao20 t137.length co20) : Value).ownBlock) (.slice Ao21 t140.length co21) t140) ∧ Aside0 (Below w.heap.size w w'))
          case atStart => exact ⟨(0), (by first | rfl | (simp; done) | (simp [*]; done) | (simp [bne_nil_isEmpty, beq_nil_isEmpty]; done) | (simp [*, bne_nil_isEmpty, beq_nil_isEmpty]; done)), H', ⟨Nat.le_refl _⟩, ⟨by (with_reducible repeat (first | apply Kd.R_alloc | apply Kd.R_drewN | apply Kd.R_drew)); exact Kd.R_mono HO139.out (fun _ hk => hk.2)⟩, ⟨by (with_reducible repeat (first | apply Kd.R_alloc | apply Kd.R_drewN | apply Kd.R_drew)); exact Kd.R_mono HO142.out (fun _ hk => hk.2)⟩, ⟨by repeat (first | (with_reducible first | exact HB.out | apply below_alloc | apply pw_below_drewN | apply below_drew1) | exact HB.out)⟩⟩
          case round =>
            clear H'
            try clear c1
            try clear p2
            try clear c3
            try clear c5
            try clear c10
            try clear c13
            try clear c13b0
            try clear c13b1
            try clear p2
            obtain ⟨x7_2, rfl, HA, HK2, HO_5, HO_6, HB⟩ := hrel
            cases gk with
            | zero => exact absurd HA.out (by simp [tollref01_Under.l0])
            | succ k2 =>
              have H := HA.out
              clear HA
              simp only [tollref01_Under.l0] at H
              by_cases c22 : x7_2 < (t140.length : Int)
              · rw [if_pos c22] at H
                have c22b0 : decide (x7_2 < (t140.length : Int)) = true := decide_eq_true c22
                clear c22
                obtain ⟨ji23, hji23⟩ : ∃ j_ : Int, (wrap64 ((wrap64 ((t137.length : Int) - 1)) - x7_2)) = j_ := ⟨_, rfl⟩
                replace H : (if 0 ≤ (ji23) then (if (ji23) < (t137.length : Int) then (if 0 ≤ (wrap64 ((wrap64 ((t140.length : Int) - 1)) - x7_2)) then (if (wrap64 ((wrap64 ((t140.length : Int) - 1)) - x7_2)) < (t140.length : Int) then (if (rdOf ByteArray.empty t137 (ji23)).toList = (rdOf ByteArray.empty t140 (wrap64 ((wrap64 ((t140.length : Int) - 1)) - x7_2))).toList then (tollref01_Under.l0 k2 t137 t140 (wrap64 (x7_2 + 1))) else (some false)) else (none)) else (none)) else (none)) else (none)) = some r := by first | (rw [hji23] at H; exact H) | (simp only [hji23] at H ⊢; exact H)
                have hji23w : (IntKind.i64.wrap ((wrap64 ((t137.length : Int) - 1)) - x7_2)) = ji23 := (i64_w _).trans hji23
                by_cases c24 : 0 ≤ (ji23)
                · rw [if_pos c24] at H
                  have c24b0 : decide (0 ≤ (ji23)) = true := decide_eq_true c24
                  clear c24
                  by_cases c25 : (ji23) < (t137.length : Int)
                  · rw [if_pos c25] at H
                    have c25b0 : decide ((ji23) < (t137.length : Int)) = true := decide_eq_true c25
                    clear c25
                    obtain ⟨ji26, hji26⟩ : ∃ j_ : Int, (wrap64 ((wrap64 ((t140.length : Int) - 1)) - x7_2)) = j_ := ⟨_, rfl⟩
                    replace H : (if 0 ≤ (ji26) then (if (ji26) < (t140.length : Int) then (if (rdOf ByteArray.empty t137 (ji23)).toList = (rdOf ByteArray.empty t140 (ji26)).toList then (tollref01_Under.l0 k2 t137 t140 (wrap64 (x7_2 + 1))) else (some false)) else (none)) else (none)) = some r := by first | (rw [hji26] at H; exact H) | (simp only [hji26] at H ⊢; exact H)
                    have hji26w : (IntKind.i64.wrap ((wrap64 ((t140.length : Int) - 1)) - x7_2)) = ji26 := (i64_w _).trans hji26
                    by_cases c27 : 0 ≤ (ji26)
                    · rw [if_pos c27] at H
                      have c27b0 : decide (0 ≤ (ji26)) = true := decide_eq_true c27
                      clear c27
                      by_cases c28 : (ji26) < (t140.length : Int)
                      · rw [if_pos c28] at H
                        have c28b0 : decide ((ji26) < (t140.length : Int)) = true := decide_eq_true c28
                        clear c28
                        by_cases c29 : (rdOf ByteArray.empty t137 (ji23)).toList = (rdOf ByteArray.empty t140 (ji26)).toList
                        · rw [if_pos c29] at H
                          have c29b0 : ((rdOf ByteArray.empty t137 (ji23)).toList == (rdOf ByteArray.empty t140 (ji26)).toList) = true := beq_iff_eq.mpr c29
                          have c29b1 : ((rdOf ByteArray.empty t137 (ji23)).toList != (rdOf ByteArray.empty t140 (ji26)).toList) = false := bne_eq_false_iff_eq.mpr c29
                          clear c29
                          have H' := Aside0.mk H
                          clear H
                          have p143 : 0 ≤ ((ji23) : Int) := of_decide_eq_true (by first | (with_reducible assumption) | assumption)
                          have q143 : (ji23) < (t137.length : Int) := of_decide_eq_true (by first | (with_reducible assumption) | assumption)
                          obtain ⟨ad143, e143, hx143_0⟩ := Kd.at_string (Kd.R_reads' HO_5.out).2.2 (ji23) p143 q143
                          cases e143
                          replace p143 := eq_true p143
                          replace q143 := eq_true q143
                          have p144 : 0 ≤ ((ji26) : Int) := of_decide_eq_true (by first | (with_reducible assumption) | assumption)
                          have q144 : (ji26) < (t140.length : Int) := of_decide_eq_true (by first | (with_reducible assumption) | assumption)
                          obtain ⟨ad144, e144, hx144_0⟩ := Kd.at_string (Kd.R_reads' HO_6.out).2.2 (ji26) p144 q144
                          cases e144
                          replace p144 := eq_true p144
                          replace q144 := eq_true q144
                          go_wp2
                          repeat (go_quiet (fail); try go_wp2)
                          go_roundg k2
                          case measure => have := HJ2.out; have := HK2.out; omega
                          case rel => exact ⟨(wrap64 (x7_2 + 1)), (by first | rfl | (simp; done) | (simp [*]; done) | (simp [bne_nil_isEmpty, beq_nil_isEmpty]; done) | (simp [*, bne_nil_isEmpty, beq_nil_isEmpty]; done)), H', ⟨by have := HJ2.out; have := HK2.out; omega⟩, ⟨by (with_reducible repeat (first | apply Kd.R_alloc | apply Kd.R_drewN | apply Kd.R_drew)); exact HO_5.out⟩, ⟨by (with_reducible repeat (first | apply Kd.R_alloc | apply Kd.R_drewN | apply Kd.R_drew)); exact HO_6.out⟩, ⟨by repeat (first | (with_reducible first | exact HB.out | apply below_alloc | apply pw_below_drewN | apply below_drew1) | exact HB.out)⟩⟩
                        · rw [if_neg c29] at H
                          have c29b0 : ((rdOf ByteArray.empty t137 (ji23)).toList == (rdOf ByteArray.empty t140 (ji26)).toList) = false := beq_eq_false_iff_ne.mpr c29
                          have c29b1 : ((rdOf ByteArray.empty t137 (ji23)).toList != (rdOf ByteArray.empty t140 (ji26)).toList) = true := bne_iff_ne.mpr c29
                          obtain rfl := Option.some.inj H
                          have p143 : 0 ≤ ((ji23) : Int) := of_decide_eq_true (by first | (with_reducible assumption) | assumption)
                          have q143 : (ji23) < (t137.length : Int) := of_decide_eq_true (by first | (with_reducible assumption) | assumption)
                          obtain ⟨ad143, e143, hx143_0⟩ := Kd.at_string (Kd.R_reads' HO_5.out).2.2 (ji23) p143 q143
                          cases e143
                          replace p143 := eq_true p143
                          replace q143 := eq_true q143
                          have p144 : 0 ≤ ((ji26) : Int) := of_decide_eq_true (by first | (with_reducible assumption) | assumption)
                          have q144 : (ji26) < (t140.length : Int) := of_decide_eq_true (by first | (with_reducible assumption) | assumption)
                          obtain ⟨ad144, e144, hx144_0⟩ := Kd.at_string (Kd.R_reads' HO_6.out).2.2 (ji26) p144 q144
                          cases e144
                          replace p144 := eq_true p144
                          replace q144 := eq_true q144
                          go_wp2
                          repeat (go_quiet (fail); try go_wp2)
                          go_ret
                          exact ⟨by first | rfl | (simp [errW_none, errW_some] <;> rfl) | (simp only [← hji23, ← hji26]; first | rfl | (simp [errW_none, errW_some] <;> rfl)) | (simp [*, errW_none, errW_some] <;> rfl), by repeat (first | (with_reducible first | exact HB.out | apply below_alloc | apply pw_below_drewN | apply below_drew1) | exact HB.out)⟩
                      · rw [if_neg c28] at H
                        exact absurd H (by simp)
                    · rw [if_neg c27] at H
                      exact absurd H (by simp)
                  · rw [if_neg c25] at H
                    exact absurd H (by simp)
                · rw [if_neg c24] at H
                  exact absurd H (by simp)
              · rw [if_neg c22] at H
                have c22b0 : decide (x7_2 < (t140.length : Int)) = false := decide_eq_false c22
                clear c22
                obtain rfl := Option.some.inj H
                go_wp2
                repeat (go_quiet (fail); try go_wp2)
                go_ret
                exact ⟨by first | rfl | (simp [errW_none, errW_some] <;> rfl) | (simp [*, errW_none, errW_some] <;> rfl), by repeat (first | (with_reducible first | exact HB.out | apply below_alloc | apply pw_below_drewN | apply below_drew1) | exact HB.out)⟩

/-! ### tollref02_Holds: function 15 -/
def tollref02_Holds.j0 : Nat → ByteArray → ByteArray → Bool → Option (Bool)
  | 0, _, _, _ => none
  | k + 1, x0, x1, x14 => if x14 = true then (some false) else ((tollref02_wide.f x0).bind fun bt147 => (if bt147.2 = true then ((tollref01_Under.f k x1 bt147.1).bind fun t149 => (some t149)) else (if x0.toList = ([] : List UInt8) then (some true) else (some (x0.toList == x1.toList)))))
def tollref02_Holds.f (k : Nat) (a0 : ByteArray) (a1 : ByteArray) : Option (Bool) := (tollref02_May.f k a0).bind fun t145 => (if t145 = true then ((tollref01_Name.f k a1).bind fun t146 => (tollref02_Holds.j0 k a0 a1 (!t146))) else (tollref02_Holds.j0 k a0 a1 true))
theorem tollref02_Holds.mono_l : ∀ k, (∀ y0 y1 y2, LeO (tollref02_Holds.j0 k y0 y1 y2) (tollref02_Holds.j0 (k + 1) y0 y1 y2))
  | 0 => fun _ _ _ r h => by simp [tollref02_Holds.j0] at h
  | k + 1 => by
    have ih0 := tollref02_Holds.mono_l k
    · intro y0 y1 y2
      unfold tollref02_Holds.j0
      repeat' first
      | (with_reducible exact ih0 _ _ _)
      | (with_reducible exact tollref01_Name.mono _ _)
      | (with_reducible exact tollref01_Under.mono _ _ _)
      | (with_reducible exact tollref02_May.mono _ _)
      | (with_reducible exact LeO.refl _)
      | (with_reducible exact LeO.none _)
      | (with_reducible refine LeO.ite ?_ ?_)
      | (with_reducible refine LeO.bind ?_ (fun _ => ?_))
      | exact ih0 _ _ _
      | exact tollref01_Name.mono _ _
      | exact tollref01_Under.mono _ _ _
      | exact tollref02_May.mono _ _
      | exact LeO.none _
      | refine LeO.ite ?_ ?_
      | refine LeO.bind ?_ (fun _ => ?_)
theorem tollref02_Holds.mono : ∀ a0 a1 k, LeO (tollref02_Holds.f k a0 a1) (tollref02_Holds.f (k + 1) a0 a1) := by
  intro a0 a1 k
  have ih0 := tollref02_Holds.mono_l k
  unfold tollref02_Holds.f
  repeat' first
      | (with_reducible exact ih0 _ _ _)
      | (with_reducible exact tollref01_Name.mono _ _)
      | (with_reducible exact tollref01_Under.mono _ _ _)
      | (with_reducible exact tollref02_May.mono _ _)
      | (with_reducible exact LeO.refl _)
      | (with_reducible exact LeO.none _)
      | (with_reducible refine LeO.ite ?_ ?_)
      | (with_reducible refine LeO.bind ?_ (fun _ => ?_))
      | exact ih0 _ _ _
      | exact tollref01_Name.mono _ _
      | exact tollref01_Under.mono _ _ _
      | exact tollref02_May.mono _ _
      | exact LeO.none _
      | refine LeO.ite ?_ ?_
      | refine LeO.bind ?_ (fun _ => ?_)
set_option maxHeartbeats 8000000 in
set_option maxRecDepth 100000 in
theorem tollref02_Holds.calls (k : Nat) (a0 : ByteArray) (a1 : ByteArray) (r : Bool) (w : World) (h : tollref02_Holds.f k a0 a1 = some r) :
    Calls Tryd.prog 15 #[.string a0, .string a1] w fun e w' => e = .returned (.bool r) ∧ Below w.heap.size w w' := by
  have HB := Aside0.mk (Below.refl w.heap.size w)
  have H : ((tollref02_May.f k a0).bind fun t145 => (if t145 = true then ((tollref01_Name.f k a1).bind fun t146 => (tollref02_Holds.j0 k a0 a1 (!t146))) else (tollref02_Holds.j0 k a0 a1 true))) = some r := h
  clear h
  have HC3 := Aside0.mk H
  clear H
  go_enter Tryd.func15, Tryd.ntmps15
  go_upto_region 1 with (fail)
  go_cut [14] (fun v14 wc => ∃ (kq : Nat) (x14_2 : Bool), v14 = .bool x14_2 ∧ Aside0 (tollref02_Holds.j0 kq a0 a1 x14_2 = some r) ∧ Aside0 (kq ≤ k) ∧ Aside0 (Below w.heap.size w wc))
  case first =>
    have H := HC3.out
    clear HC3
    replace H := Option.bind_eq_some_iff.mp H
    obtain ⟨t145, A40, H⟩ := H
    replace H : (if t145 = true then ((tollref01_Name.f k a1).bind fun t146 => (tollref02_Holds.j0 k a0 a1 (!t146))) else (tollref02_Holds.j0 k a0 a1 true)) = some r := H
    have A4 := Aside0.mk A40
    clear A40
    by_cases c5 : t145 = true
    · subst c5
      have H1 : ((tollref01_Name.f k a1).bind fun t146 => (tollref02_Holds.j0 k a0 a1 (!t146))) = some r := by rw [if_pos rfl] at H; exact H
      clear H
      have H := H1
      clear H1
      replace H := Option.bind_eq_some_iff.mp H
      obtain ⟨t146, A60, H⟩ := H
      replace H : (tollref02_Holds.j0 k a0 a1 (!t146)) = some r := H
      have A6 := Aside0.mk A60
      clear A60
      have H' := Aside0.mk H
      clear H
      go_wp2_with (first | ((with_reducible refine gate_callee (f := 13) rfl ?_); refine goesL_ (some 8) rfl rfl Tryd.func13 (by kernel_rfl) rfl #[.string a0] rfl (by (try simp only [List.map_toArray, List.map_cons, List.map_nil]); first | done | rfl | (simp only [List.length_drop, List.length_take]; rfl)) ?_; (with_reducible refine (tollref02_May.calls k a0 true _ A4.out).mono ?_); rintro e w7 ⟨rfl, hb⟩; refine ⟨_, rfl, ?_⟩; have n0_ := Aside0.mk (below_step (by repeat (first | (with_reducible first | exact HB.out | apply below_alloc | apply pw_below_drewN | apply below_drew1) | exact HB.out)) hb); clear HB; have HB := n0_; clear n0_; (try clear hb); (try clear hb2); (try clear hk); (try clear hi)) | (go_at_call 18; (with_reducible refine (tollref01_Name.calls k a1 t146 _ A6.out).mono ?_); rintro e w8 ⟨rfl, hb⟩; have n0_ := Aside0.mk (below_step (by repeat (first | (with_reducible first | exact HB.out | apply below_alloc | apply pw_below_drewN | apply below_drew1) | exact HB.out)) hb); clear HB; have HB := n0_; clear n0_; (try clear hb); (try clear hb2); (try clear hk); (try clear hi)))
      go_meet
      case rel => exact ⟨_, (!t146), (by first | rfl | (simp; done) | (simp [*]; done) | (simp [bne_nil_isEmpty, beq_nil_isEmpty]; done) | (simp [*, bne_nil_isEmpty, beq_nil_isEmpty]; done)), H', ⟨by first | omega | exact Nat.le_refl _⟩, ⟨by repeat (first | (with_reducible first | exact HB.out | apply below_alloc | apply pw_below_drewN | apply below_drew1) | exact HB.out)⟩⟩
    · replace c5 := Bool.eq_false_iff.mpr c5
      subst c5
      have H1 : (tollref02_Holds.j0 k a0 a1 true) = some r := by rw [if_neg (show ¬ (false = true) by decide)] at H; exact H
      clear H
      have H := H1
      clear H1
      have H' := Aside0.mk H
      clear H
      go_wp2_with (first | ((with_reducible refine gate_callee (f := 13) rfl ?_); refine goesL_ (some 8) rfl rfl Tryd.func13 (by kernel_rfl) rfl #[.string a0] rfl (by (try simp only [List.map_toArray, List.map_cons, List.map_nil]); first | done | rfl | (simp only [List.length_drop, List.length_take]; rfl)) ?_; (with_reducible refine (tollref02_May.calls k a0 false _ A4.out).mono ?_); rintro e w9 ⟨rfl, hb⟩; refine ⟨_, rfl, ?_⟩; have n0_ := Aside0.mk (below_step (by repeat (first | (with_reducible first | exact HB.out | apply below_alloc | apply pw_below_drewN | apply below_drew1) | exact HB.out)) hb); clear HB; have HB := n0_; clear n0_; (try clear hb); (try clear hb2); (try clear hk); (try clear hi)))
      go_meet
      case rel => exact ⟨_, (true), (by first | rfl | (simp; done) | (simp [*]; done) | (simp [bne_nil_isEmpty, beq_nil_isEmpty]; done) | (simp [*, bne_nil_isEmpty, beq_nil_isEmpty]; done)), H', ⟨by first | omega | exact Nat.le_refl _⟩, ⟨by repeat (first | (with_reducible first | exact HB.out | apply below_alloc | apply pw_below_drewN | apply below_drew1) | exact HB.out)⟩⟩
  case rest =>
    clear HC3
    try clear c1
    try clear p2
    try clear c5
    obtain ⟨kq, x14_2, rfl, HA, HJ2, HB⟩ := hcut
    cases kq with
    | zero => exact absurd HA.out (by simp [tollref02_Holds.j0])
    | succ kj2 =>
      have H := HA.out
      clear HA
      simp only [tollref02_Holds.j0] at H
      by_cases c10 : x14_2 = true
      · subst c10
        have H1 : (some false) = some r := by rw [if_pos rfl] at H; exact H
        clear H
        have H := H1
        clear H1
        obtain rfl := Option.some.inj H
        go_wp2
        go_ret
        exact ⟨by first | rfl | (simp [errW_none, errW_some] <;> rfl) | (simp [*, errW_none, errW_some] <;> rfl), by repeat (first | (with_reducible first | exact HB.out | apply below_alloc | apply pw_below_drewN | apply below_drew1) | exact HB.out)⟩
      · replace c10 := Bool.eq_false_iff.mpr c10
        subst c10
        have H1 : ((tollref02_wide.f a0).bind fun bt147 => (if bt147.2 = true then ((tollref01_Under.f kj2 a1 bt147.1).bind fun t149 => (some t149)) else (if a0.toList = ([] : List UInt8) then (some true) else (some (a0.toList == a1.toList))))) = some r := by rw [if_neg (show ¬ (false = true) by decide)] at H; exact H
        clear H
        have H := H1
        clear H1
        replace H := Option.bind_eq_some_iff.mp H
        obtain ⟨⟨t147, t148⟩, A110, H⟩ := H
        replace H : (if t148 = true then ((tollref01_Under.f kj2 a1 t147).bind fun t149 => (some t149)) else (if a0.toList = ([] : List UInt8) then (some true) else (some (a0.toList == a1.toList)))) = some r := H
        have A11 := Aside0.mk A110
        clear A110
        by_cases c12 : t148 = true
        · subst c12
          have H1 : ((tollref01_Under.f kj2 a1 t147).bind fun t149 => (some t149)) = some r := by rw [if_pos rfl] at H; exact H
          clear H
          have H := H1
          clear H1
          replace H := Option.bind_eq_some_iff.mp H
          obtain ⟨t149, A130, H⟩ := H
          replace H : (some t149) = some r := H
          have A13 := Aside0.mk A130
          clear A130
          obtain rfl := Option.some.inj H
          go_wp2_with (first | ((with_reducible refine gate_callee (f := 29) rfl ?_); refine goesL_ (some 17) rfl rfl Tryd.func29 (by kernel_rfl) rfl #[.string a0] rfl (by (try simp only [List.map_toArray, List.map_cons, List.map_nil]); first | done | rfl | (simp only [List.length_drop, List.length_take]; rfl)) ?_; (with_reducible refine (tollref02_wide.calls a0 t147 true _ A11.out).mono ?_); rintro e w' ⟨rfl, ⟨nd, rfl⟩⟩; refine ⟨_, rfl, ?_⟩) | ((with_reducible refine gate_callee (f := 31) rfl ?_); refine goesL_ (some 23) rfl rfl Tryd.func31 (by kernel_rfl) rfl #[.string a1, .string t147] rfl (by (try simp only [List.map_toArray, List.map_cons, List.map_nil]); first | done | rfl | (simp only [List.length_drop, List.length_take]; rfl)) ?_; (with_reducible refine (tollref01_Under.calls kj2 a1 t147 t149 _ A13.out).mono ?_); rintro e w14 ⟨rfl, hb⟩; refine ⟨_, rfl, ?_⟩; have n0_ := Aside0.mk (below_step (by repeat (first | (with_reducible first | exact HB.out | apply below_alloc | apply pw_below_drewN | apply below_drew1) | exact HB.out)) hb); clear HB; have HB := n0_; clear n0_; (try clear hb); (try clear hb2); (try clear hk); (try clear hi)))
          go_ret
          exact ⟨by first | rfl | (simp [errW_none, errW_some] <;> rfl) | (simp [*, errW_none, errW_some] <;> rfl), by repeat (first | (with_reducible first | exact HB.out | apply below_alloc | apply pw_below_drewN | apply below_drew1) | exact HB.out)⟩
        · replace c12 := Bool.eq_false_iff.mpr c12
          subst c12
          have H1 : (if a0.toList = ([] : List UInt8) then (some true) else (some (a0.toList == a1.toList))) = some r := by rw [if_neg (show ¬ (false = true) by decide)] at H; exact H
          clear H
          have H := H1
          clear H1
          by_cases c15 : a0.toList = ([] : List UInt8)
          · rw [if_pos c15] at H
            have c15b0 : (a0.toList == ([] : List UInt8)) = true := beq_iff_eq.mpr c15
            have c15b1 : (a0.toList != ([] : List UInt8)) = false := bne_eq_false_iff_eq.mpr c15
            clear c15
            obtain rfl := Option.some.inj H
            go_wp2_with (first | ((with_reducible refine gate_callee (f := 29) rfl ?_); refine goesL_ (some 17) rfl rfl Tryd.func29 (by kernel_rfl) rfl #[.string a0] rfl (by (try simp only [List.map_toArray, List.map_cons, List.map_nil]); first | done | rfl | (simp only [List.length_drop, List.length_take]; rfl)) ?_; (with_reducible refine (tollref02_wide.calls a0 t147 false _ A11.out).mono ?_); rintro e w' ⟨rfl, ⟨nd, rfl⟩⟩; refine ⟨_, rfl, ?_⟩))
            go_ret
            exact ⟨by first | rfl | (simp [errW_none, errW_some] <;> rfl) | (simp [*, errW_none, errW_some] <;> rfl), by repeat (first | (with_reducible first | exact HB.out | apply below_alloc | apply pw_below_drewN | apply below_drew1) | exact HB.out)⟩
          · rw [if_neg c15] at H
            have c15b0 : (a0.toList == ([] : List UInt8)) = false := beq_eq_false_iff_ne.mpr c15
            have c15b1 : (a0.toList != ([] : List UInt8)) = true := bne_iff_ne.mpr c15
            obtain rfl := Option.some.inj H
            go_wp2_with (first | ((with_reducible refine gate_callee (f := 29) rfl ?_); refine goesL_ (some 17) rfl rfl Tryd.func29 (by kernel_rfl) rfl #[.string a0] rfl (by (try simp only [List.map_toArray, List.map_cons, List.map_nil]); first | done | rfl | (simp only [List.length_drop, List.length_take]; rfl)) ?_; (with_reducible refine (tollref02_wide.calls a0 t147 false _ A11.out).mono ?_); rintro e w' ⟨rfl, ⟨nd, rfl⟩⟩; refine ⟨_, rfl, ?_⟩))
            go_ret
            exact ⟨by first | rfl | (simp [errW_none, errW_some] <;> rfl) | (simp [*, errW_none, errW_some] <;> rfl), by repeat (first | (with_reducible first | exact HB.out | apply below_alloc | apply pw_below_drewN | apply below_drew1) | exact HB.out)⟩

end Go.Proofs.YtjfjmniegceejaaDoor.P
