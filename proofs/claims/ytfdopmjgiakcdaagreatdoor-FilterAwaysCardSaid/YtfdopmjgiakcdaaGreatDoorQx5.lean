-- written by wip/tool/hprint.py of this repo: the kit's print, with contracts by hand joined; Lean checks it.
import Derived.Test.YtfdopmjgiakcdaaGreatDoorQx0
import Derived.Test.YtfdopmjgiakcdaaGreatDoorQx1
import Derived.Test.YtfdopmjgiakcdaaGreatDoorQx4
namespace Go.Proofs.YtfdopmjgiakcdaaGreatDoor.Q
open Go.RowKit Go.Proofs.YtfdopmjgiakcdaaGreatDoorW.PrintWords Go.Proofs.YtfdopmjgiakcdaaGreatDoorW.PrintLast Go.Proofs.YtfdopmjgiakcdaaGreatDoorW.PrintMore
attribute [local go_sem] max2_int min2_int max_two min_two max_three min_three max_four min_four   -- for this text's walks alone
set_option linter.unusedVariables false
set_option linter.unusedSimpArgs false

attribute [local go_sem high] eqA26
/-! ### stringslite_HasPrefix: function 83 -/
def stringslite_HasPrefix.f (a0 : ByteArray) (a1 : ByteArray) : Option (Bool) := if (a0.size : Int) ≥ (a1.size : Int) then (if 0 ≤ (a1.size : Int) then (if (a1.size : Int) ≤ (a0.size : Int) then (some ((a0.extract 0 a1.size).toList == a1.toList)) else (none)) else (none)) else (some false)
set_option maxHeartbeats 8000000 in
set_option maxRecDepth 100000 in
theorem stringslite_HasPrefix.calls (a0 : ByteArray) (a1 : ByteArray) (r : Bool) (w : World) (h : stringslite_HasPrefix.f a0 a1 = some r) :
  Calls Tryz.prog 83 #[.string a0, .string a1] w fun e w' => e = .returned (.bool r) ∧ Drawn0 w w' := by
 have H : (if (a0.size : Int) ≥ (a1.size : Int) then (if 0 ≤ (a1.size : Int) then (if (a1.size : Int) ≤ (a0.size : Int) then (some ((a0.extract 0 a1.size).toList == a1.toList)) else (none)) else (none)) else (some false)) = some r := h
 clear h
 by_cases c3 : (a0.size : Int) ≥ (a1.size : Int)
 ·rw [if_pos c3] at H
  have c3b0 : decide ((a1.size : Int) ≤ (a0.size : Int)) = true := decide_eq_true c3
  have c3b1 : decide (a1.size ≤ a0.size) = true := decide_eq_true (Int.ofNat_le.mp c3)
  clear c3
  by_cases c4 : 0 ≤ (a1.size : Int)
  ·rw [if_pos c4] at H
   have c4b0 := eq_true c4
   have c4b1 : decide (0 ≤ (a1.size : Int)) = true := decide_eq_true c4
   clear c4
   by_cases c5 : (a1.size : Int) ≤ (a0.size : Int)
   ·rw [if_pos c5] at H
    have c5b0 := eq_true c5
    have c5b1 : decide ((a1.size : Int) ≤ (a0.size : Int)) = true := decide_eq_true c5
    clear c5
    obtain rfl := Option.some.inj H
    go_enter Tryz.func83, Tryz.ntmps83
    go_wp2
    go_ret
    exact ⟨by first | rfl | (simp; done) | (simp [*]; done) | (simp [bne_nil_isEmpty, beq_nil_isEmpty]; done) | (simp [*, bne_nil_isEmpty, beq_nil_isEmpty]; done), by repeat (first | exact Drawn0.refl _ | apply Drawn0.step)⟩
   ·rw [if_neg c5] at H
    exact absurd H (by simp)
  ·rw [if_neg c4] at H
   exact absurd H (by simp)
 ·rw [if_neg c3] at H
  have c3b0 : decide ((a1.size : Int) ≤ (a0.size : Int)) = false := decide_eq_false c3
  have c3b1 : decide (a1.size ≤ a0.size) = false := decide_eq_false (fun h => c3 (Int.ofNat_le.mpr h))
  clear c3
  obtain rfl := Option.some.inj H
  go_enter Tryz.func83, Tryz.ntmps83
  go_wp2
  go_ret
  exact ⟨by first | rfl | (simp; done) | (simp [*]; done) | (simp [bne_nil_isEmpty, beq_nil_isEmpty]; done) | (simp [*, bne_nil_isEmpty, beq_nil_isEmpty]; done), by repeat (first | exact Drawn0.refl _ | apply Drawn0.step)⟩

/-! ### strings_HasPrefix: function 60 -/
def strings_HasPrefix.f (a0 : ByteArray) (a1 : ByteArray) : Option (Bool) := (stringslite_HasPrefix.f a0 a1).bind fun t113 => (some t113)
set_option maxHeartbeats 8000000 in
set_option maxRecDepth 100000 in
theorem strings_HasPrefix.calls (a0 : ByteArray) (a1 : ByteArray) (r : Bool) (w : World) (h : strings_HasPrefix.f a0 a1 = some r) :
  Calls Tryz.prog 60 #[.string a0, .string a1] w fun e w' => e = .returned (.bool r) ∧ Drawn0 w w' := by
 have H : ((stringslite_HasPrefix.f a0 a1).bind fun t113 => (some t113)) = some r := h
 clear h
 replace H := Option.bind_eq_some_iff.mp H
 obtain ⟨t113, A30, H⟩ := H
 replace H : (some t113) = some r := H
 have A3 := Aside0.mk A30
 clear A30
 obtain rfl := Option.some.inj H
 go_enter Tryz.func60, Tryz.ntmps60
 go_wp2_with (first | ((with_reducible refine gate_callee (f := 83) rfl ?_); refine goesL_ (some 7) rfl rfl Tryz.func83 kr_ rfl #[.string a0, .string a1] rfl rl_ ?_; (with_reducible refine (stringslite_HasPrefix.calls a0 a1 t113 _ A3.out).mono ?_); rintro e w' ⟨rfl, ⟨nd, rfl⟩⟩; refine ⟨_, rfl, ?_⟩))
 go_ret
 exact ⟨by first | rfl | (simp; done) | (simp [*]; done) | (simp [bne_nil_isEmpty, beq_nil_isEmpty]; done) | (simp [*, bne_nil_isEmpty, beq_nil_isEmpty]; done), by repeat (first | exact Drawn0.refl _ | apply Drawn0.step)⟩

/-! ### path_Is: function 54 -/
def path_Is.ok (c : UInt8) : Bool := decide (33 ≤ c.toNat) && (decide (c.toNat ≤ 126) && (c.toNat != 63 && c.toNat != 35))
def path_Is.f (a0 : ByteArray) : Option (Bool) := if a0.data.toList.all path_Is.ok = true then ((strings_HasPrefix.f a0 (⟨#[47]⟩ : ByteArray)).bind fun t => (if t = true then (some (decide ((a0.size : Int) ≤ 60))) else (some false))) else (some false)
theorem path_Is.take_succ (s : ByteArray) (pos : Nat) (h : pos < s.size) (ha : (s.data.toList.take pos).all path_Is.ok = true) (hc : path_Is.ok (s[pos]'h) = true) : (s.data.toList.take (pos + 1)).all path_Is.ok = true := by
 rw [List.take_succ_eq_append_getElem (by simpa using h), List.all_append, ha]
 simp only [List.all_cons, List.all_nil, Bool.and_true, Bool.true_and]
 exact hc
theorem path_Is.not_all (s : ByteArray) (pos : Nat) (h : pos < s.size) (hc : ¬ path_Is.ok (s[pos]'h) = true) : ¬ s.data.toList.all path_Is.ok = true := by
 intro ha
 exact hc (List.all_eq_true.1 ha _ (List.getElem_mem (l := s.data.toList) (n := pos) (by simpa using h)))
theorem path_Is.bad_rune (s : ByteArray) (pos : Nat) (h : pos < s.size) (hc : ¬ path_Is.ok (s[pos]'h) = true) :
  (Utf8.decode s pos).1 < 33 ∨ (33 ≤ (Utf8.decode s pos).1 ∧ 126 < (Utf8.decode s pos).1) ∨ (Utf8.decode s pos).1 = 63 ∨ (Utf8.decode s pos).1 = 35 := by
 by_cases ha : (s[pos]'h).toNat < 128
 ·rw [decode_ascii s pos h ha]
  simp only [path_Is.ok, Bool.and_eq_true, decide_eq_true_eq, bne_iff_ne, not_and] at hc
  omega
 ·have := (decode_high s pos h (by omega)).1
  omega
set_option maxHeartbeats 8000000 in
set_option maxRecDepth 100000 in
theorem path_Is.calls (a0 : ByteArray) (r : Bool) (w : World) (h : path_Is.f a0 = some r) :
  Calls Tryz.prog 54 #[.string a0] w fun e w' => e = .returned (.bool r) ∧ Below w.heap.size w w' := by
 have H := Aside0.mk h
 clear h
 go_enter Tryz.func54, Tryz.ntmps54
 go_wp2
 go_loopw [] (fun wr => ∃ pos : Nat, wr = w.iter a0 pos ∧ pos ≤ a0.size ∧ (a0.data.toList.take pos).all path_Is.ok = true) (fun wr => a0.size - wr.iterPos w.heap.size)
 case atStart => exact ⟨0, rfl, by omega, by simp⟩
 case round =>
  obtain ⟨pos, rfl, hle, hall0⟩ := hrel
  have hall := Aside0.mk hall0
  clear hall0
  by_cases hp : pos < a0.size
  ·by_cases hc : path_Is.ok (a0[pos]'hp) = true
   ·have hc' := hc
    simp only [path_Is.ok, Bool.and_eq_true, decide_eq_true_eq, bne_iff_ne] at hc'
    obtain ⟨h1, h2, h3, h4⟩ := hc'
    have hnx := fun ty => run_next_ascii (P := Tryz.prog) w a0 pos ty hp (by omega)
    have hs := am_ (path_Is.take_succ a0 pos hp hall.out hc)
    clear hc hall
    have b1 : decide (((a0[pos]'hp).toNat : Int) < 33) = false := decide_eq_false (by omega)
    have b2 : decide (126 < ((a0[pos]'hp).toNat : Int)) = false := decide_eq_false (by omega)
    have b3 : (((a0[pos]'hp).toNat : Int) == 63) = false := beq_eq_false_iff_ne.2 (by omega)
    have b4 : (((a0[pos]'hp).toNat : Int) == 35) = false := beq_eq_false_iff_ne.2 (by omega)
    clear h1 h2 h3 h4
    go_wp2
    go_roundw
    case rel => exact ⟨pos + 1, rfl, by omega, hs.out⟩
    case measure => simp [World.iterPos_iter]; omega
   ·have hbad := path_Is.bad_rune a0 pos hp hc
    have hr : r = false := by
     have := H.out
     rw [path_Is.f, if_neg (path_Is.not_all a0 pos hp hc)] at this
     exact (Option.some.inj this).symm
    subst hr
    clear H hall hc
    have hnx := fun ty => run_next_any (P := Tryz.prog) w a0 pos ty hp
    generalize (Utf8.decode a0 pos).1 = c at hnx hbad
    generalize (Utf8.decode a0 pos).2 = n at hnx
    by_cases h1 : c < 33
    ·have b1 : decide ((c : Int) < 33) = true := decide_eq_true (by omega)
     clear hbad h1
     go_wp2
     go_ret
     exact ⟨rfl, (Below.refl _ w).alloc (Nat.le_refl _) _⟩
    ·have b1 : decide ((c : Int) < 33) = false := decide_eq_false (by omega)
     by_cases h2 : 126 < c
     ·have b2 : decide (126 < (c : Int)) = true := decide_eq_true (by omega)
      clear hbad h1 h2
      go_wp2
      go_ret
      exact ⟨rfl, (Below.refl _ w).alloc (Nat.le_refl _) _⟩
     ·have b2 : decide (126 < (c : Int)) = false := decide_eq_false (by omega)
      by_cases h3 : c = 63
      ·subst h3
       clear hbad h1 h2 b1 b2
       go_wp2
       go_ret
       exact ⟨rfl, (Below.refl _ w).alloc (Nat.le_refl _) _⟩
      ·obtain rfl : c = 35 := by omega
       clear hbad h1 h2 b1 b2 h3
       go_wp2
       go_ret
       exact ⟨rfl, (Below.refl _ w).alloc (Nat.le_refl _) _⟩
  ·have hnx := fun ty => run_next_end (P := Tryz.prog) w a0 pos ty hp
   have ha : a0.data.toList.all path_Is.ok = true := by
    have := hall.out
    rwa [List.take_of_length_le (by simp; omega)] at this
   have H2 := H.out
   clear H hall
   rw [path_Is.f, if_pos ha] at H2
   clear ha
   obtain ⟨t, ht, H2⟩ := Option.bind_eq_some_iff.1 H2
   have HT := Aside0.mk ht
   clear ht
   cases t
   ·rw [if_neg (by simp)] at H2
    obtain rfl := Option.some.inj H2
    clear H2
    go_wp2_with ((with_reducible refine (strings_HasPrefix.calls a0 _ false _ HT.out).mono ?_); rintro e w' ⟨rfl, ⟨nd, rfl⟩⟩)
    go_ret
    exact ⟨rfl, by repeat (first | (with_reducible first | exact Below.refl _ _ | apply below_alloc | apply pw_below_drewN | apply below_drew1 | apply World.iter) | exact (Below.refl _ w).alloc (Nat.le_refl _) _)⟩
   ·rw [if_pos rfl] at H2
    obtain rfl := Option.some.inj H2
    clear H2
    go_wp2_with ((with_reducible refine (strings_HasPrefix.calls a0 _ true _ HT.out).mono ?_); rintro e w' ⟨rfl, ⟨nd, rfl⟩⟩)
    go_ret
    exact ⟨by simp, by repeat (first | (with_reducible first | exact Below.refl _ _ | apply below_alloc | apply pw_below_drewN | apply below_drew1 | apply World.iter) | exact (Below.refl _ w).alloc (Nat.le_refl _) _)⟩

/-! ### stringslite_HasSuffix: function 114 -/
def stringslite_HasSuffix.f (a0 : ByteArray) (a1 : ByteArray) : Option (Bool) := if (a0.size : Int) ≥ (a1.size : Int) then (if 0 ≤ (wrap64 ((a0.size : Int) - (a1.size : Int))) then (if (wrap64 ((a0.size : Int) - (a1.size : Int))) ≤ (a0.size : Int) then (some ((a0.extract ((wrap64 ((a0.size : Int) - (a1.size : Int))) : Int).toNat a0.size).toList == a1.toList)) else (none)) else (none)) else (some false)
set_option maxHeartbeats 8000000 in
set_option maxRecDepth 100000 in
theorem stringslite_HasSuffix.calls (a0 : ByteArray) (a1 : ByteArray) (r : Bool) (w : World) (h : stringslite_HasSuffix.f a0 a1 = some r) :
  Calls Tryz.prog 114 #[.string a0, .string a1] w fun e w' => e = .returned (.bool r) ∧ Drawn0 w w' := by
 have H : (if (a0.size : Int) ≥ (a1.size : Int) then (if 0 ≤ (wrap64 ((a0.size : Int) - (a1.size : Int))) then (if (wrap64 ((a0.size : Int) - (a1.size : Int))) ≤ (a0.size : Int) then (some ((a0.extract ((wrap64 ((a0.size : Int) - (a1.size : Int))) : Int).toNat a0.size).toList == a1.toList)) else (none)) else (none)) else (some false)) = some r := h
 clear h
 by_cases c3 : (a0.size : Int) ≥ (a1.size : Int)
 ·rw [if_pos c3] at H
  have c3b0 : decide ((a1.size : Int) ≤ (a0.size : Int)) = true := decide_eq_true c3
  have c3b1 : decide (a1.size ≤ a0.size) = true := decide_eq_true (Int.ofNat_le.mp c3)
  clear c3
  obtain ⟨ji4, hji4⟩ : ∃ j_ : Int, (wrap64 ((a0.size : Int) - (a1.size : Int))) = j_ := ⟨_, rfl⟩
  replace H : (if 0 ≤ (ji4) then (if (ji4) ≤ (a0.size : Int) then (some ((a0.extract ((ji4) : Int).toNat a0.size).toList == a1.toList)) else (none)) else (none)) = some r := by first | (rw [hji4] at H; exact H) | (simp only [hji4] at H ⊢; exact H)
  have hji4w : (IntKind.i64.wrap ((a0.size : Int) - (a1.size : Int))) = ji4 := (i64_w _).trans hji4
  by_cases c5 : 0 ≤ (ji4)
  ·rw [if_pos c5] at H
   have c5b0 := eq_true c5
   have c5b1 : decide (0 ≤ (ji4)) = true := decide_eq_true c5
   clear c5
   by_cases c6 : (ji4) ≤ (a0.size : Int)
   ·rw [if_pos c6] at H
    have c6b0 := eq_true c6
    have c6b1 : decide ((ji4) ≤ (a0.size : Int)) = true := decide_eq_true c6
    clear c6
    obtain rfl := Option.some.inj H
    go_enter Tryz.func114, Tryz.ntmps114
    go_wp2
    go_ret
    exact ⟨by first | rfl | (simp; done) | (simp only [← hji4] <;> (first | rfl | simp)) | (simp [*]; done), by repeat (first | exact Drawn0.refl _ | apply Drawn0.step)⟩
   ·rw [if_neg c6] at H
    exact absurd H (by simp)
  ·rw [if_neg c5] at H
   exact absurd H (by simp)
 ·rw [if_neg c3] at H
  have c3b0 : decide ((a1.size : Int) ≤ (a0.size : Int)) = false := decide_eq_false c3
  have c3b1 : decide (a1.size ≤ a0.size) = false := decide_eq_false (fun h => c3 (Int.ofNat_le.mpr h))
  clear c3
  obtain rfl := Option.some.inj H
  go_enter Tryz.func114, Tryz.ntmps114
  go_wp2
  go_ret
  exact ⟨by first | rfl | (simp; done) | (simp [*]; done) | (simp [bne_nil_isEmpty, beq_nil_isEmpty]; done) | (simp [*, bne_nil_isEmpty, beq_nil_isEmpty]; done), by repeat (first | exact Drawn0.refl _ | apply Drawn0.step)⟩

/-! ### strings_HasSuffix: function 98 -/
def strings_HasSuffix.f (a0 : ByteArray) (a1 : ByteArray) : Option (Bool) := (stringslite_HasSuffix.f a0 a1).bind fun t114 => (some t114)
set_option maxHeartbeats 8000000 in
set_option maxRecDepth 100000 in
theorem strings_HasSuffix.calls (a0 : ByteArray) (a1 : ByteArray) (r : Bool) (w : World) (h : strings_HasSuffix.f a0 a1 = some r) :
  Calls Tryz.prog 98 #[.string a0, .string a1] w fun e w' => e = .returned (.bool r) ∧ Drawn0 w w' := by
 have H : ((stringslite_HasSuffix.f a0 a1).bind fun t114 => (some t114)) = some r := h
 clear h
 replace H := Option.bind_eq_some_iff.mp H
 obtain ⟨t114, A30, H⟩ := H
 replace H : (some t114) = some r := H
 have A3 := Aside0.mk A30
 clear A30
 obtain rfl := Option.some.inj H
 go_enter Tryz.func98, Tryz.ntmps98
 go_wp2_with (first | ((with_reducible refine gate_callee (f := 114) rfl ?_); refine goesL_ (some 7) rfl rfl Tryz.func114 kr_ rfl #[.string a0, .string a1] rfl rl_ ?_; (with_reducible refine (stringslite_HasSuffix.calls a0 a1 t114 _ A3.out).mono ?_); rintro e w' ⟨rfl, ⟨nd, rfl⟩⟩; refine ⟨_, rfl, ?_⟩))
 go_ret
 exact ⟨by first | rfl | (simp; done) | (simp [*]; done) | (simp [bne_nil_isEmpty, beq_nil_isEmpty]; done) | (simp [*, bne_nil_isEmpty, beq_nil_isEmpty]; done), by repeat (first | exact Drawn0.refl _ | apply Drawn0.step)⟩

/-! ### path_above: function 80 -/
def path_above.f (a0 : ByteArray) : Option (Bool) := (path_Is.f a0).bind fun t115 => (if t115 = true then (if a0.toList = ([47] : List UInt8) then (some true) else ((strings_HasSuffix.f a0 (⟨#[47]⟩ : ByteArray)).bind fun t116 => (some (!t116)))) else (some false))
set_option maxHeartbeats 8000000 in
set_option maxRecDepth 100000 in
theorem path_above.calls (a0 : ByteArray) (r : Bool) (w : World) (h : path_above.f a0 = some r) :
  Calls Tryz.prog 80 #[.string a0] w fun e w' => e = .returned (.bool r) ∧ Below w.heap.size w w' := by
 have HB := am_ (Below.refl w.heap.size w)
 have H : ((path_Is.f a0).bind fun t115 => (if t115 = true then (if a0.toList = ([47] : List UInt8) then (some true) else ((strings_HasSuffix.f a0 (⟨#[47]⟩ : ByteArray)).bind fun t116 => (some (!t116)))) else (some false))) = some r := h
 clear h
 replace H := Option.bind_eq_some_iff.mp H
 obtain ⟨t115, A20, H⟩ := H
 replace H : (if t115 = true then (if a0.toList = ([47] : List UInt8) then (some true) else ((strings_HasSuffix.f a0 (⟨#[47]⟩ : ByteArray)).bind fun t116 => (some (!t116)))) else (some false)) = some r := H
 have A2 := Aside0.mk A20
 clear A20
 by_cases c3 : t115 = true
 ·subst c3
  have H1 : (if a0.toList = ([47] : List UInt8) then (some true) else ((strings_HasSuffix.f a0 (⟨#[47]⟩ : ByteArray)).bind fun t116 => (some (!t116)))) = some r := by rw [if_pos rfl] at H; exact H
  clear H
  have H := H1
  clear H1
  by_cases c4 : a0.toList = ([47] : List UInt8)
  ·rw [if_pos c4] at H
   have c4b0 : (a0.toList == ([47] : List UInt8)) = true := beq_iff_eq.mpr c4
   have c4b1 : (a0.toList != ([47] : List UInt8)) = false := bne_eq_false_iff_eq.mpr c4
   clear c4
   obtain rfl := Option.some.inj H
   go_enter Tryz.func80, Tryz.ntmps80
   go_wp2_with (first | ((with_reducible refine gate_callee (f := 54) rfl ?_); refine goesL_ (some 4) rfl rfl Tryz.func54 kr_ rfl #[.string a0] rfl rl_ ?_; (with_reducible refine (path_Is.calls a0 true _ A2.out).mono ?_); rintro e w5 ⟨rfl, hb⟩; refine ⟨_, rfl, ?_⟩; have n0_ := am_ (below_step (bel_ HB.out) hb); clear HB; have HB := n0_; clear n0_; (try clear hb); (try clear hb2); (try clear hk); (try clear hi)))
   go_ret
   exact ⟨fi_, bel_ HB.out⟩
  ·rw [if_neg c4] at H
   have c4b0 : (a0.toList == ([47] : List UInt8)) = false := beq_eq_false_iff_ne.mpr c4
   have c4b1 : (a0.toList != ([47] : List UInt8)) = true := bne_iff_ne.mpr c4
   replace H := Option.bind_eq_some_iff.mp H
   obtain ⟨t116, A60, H⟩ := H
   replace H : (some (!t116)) = some r := H
   have A6 := Aside0.mk A60
   clear A60
   obtain rfl := Option.some.inj H
   go_enter Tryz.func80, Tryz.ntmps80
   go_wp2_with (first | ((with_reducible refine gate_callee (f := 54) rfl ?_); refine goesL_ (some 4) rfl rfl Tryz.func54 kr_ rfl #[.string a0] rfl rl_ ?_; (with_reducible refine (path_Is.calls a0 true _ A2.out).mono ?_); rintro e w7 ⟨rfl, hb⟩; refine ⟨_, rfl, ?_⟩; have n0_ := am_ (below_step (bel_ HB.out) hb); clear HB; have HB := n0_; clear n0_; (try clear hb); (try clear hb2); (try clear hk); (try clear hi)) | (go_at_call 98; (with_reducible refine (strings_HasSuffix.calls a0 (⟨#[47]⟩ : ByteArray) t116 _ A6.out).mono ?_); rintro e w' ⟨rfl, ⟨nd, rfl⟩⟩))
   go_ret
   exact ⟨fi_, bel_ HB.out⟩
 ·replace c3 := Bool.eq_false_iff.mpr c3
  subst c3
  have H1 : (some false) = some r := by rw [if_neg (show ¬ (false = true) by decide)] at H; exact H
  clear H
  have H := H1
  clear H1
  obtain rfl := Option.some.inj H
  go_enter Tryz.func80, Tryz.ntmps80
  go_wp2_with (first | ((with_reducible refine gate_callee (f := 54) rfl ?_); refine goesL_ (some 4) rfl rfl Tryz.func54 kr_ rfl #[.string a0] rfl rl_ ?_; (with_reducible refine (path_Is.calls a0 false _ A2.out).mono ?_); rintro e w8 ⟨rfl, hb⟩; refine ⟨_, rfl, ?_⟩; have n0_ := am_ (below_step (bel_ HB.out) hb); clear HB; have HB := n0_; clear n0_; (try clear hb); (try clear hb2); (try clear hk); (try clear hi)))
  go_ret
  exact ⟨fi_, bel_ HB.out⟩

/-! ### path_May: function 55 -/
def path_May.f (a0_0 : Int) (a0_1 : ByteArray) : Option (Bool) := if a0_0 = 1 then ((path_Is.f a0_1).bind fun t118 => (if t118 = true then (some true) else (if a0_0 = 2 then ((path_above.f a0_1).bind fun t119 => (some t119)) else (some false)))) else (if a0_0 = 2 then ((path_above.f a0_1).bind fun t120 => (some t120)) else (some false))
set_option maxHeartbeats 8000000 in
set_option maxRecDepth 100000 in
theorem path_May.calls (a0_0 : Int) (a0_1 : ByteArray) (r : Bool) (w : World) (h : path_May.f a0_0 a0_1 = some r) :
  Calls Tryz.prog 55 #[.agg #[.int .i64 a0_0, .string a0_1]] w fun e w' => e = .returned (.bool r) ∧ Below w.heap.size w w' := by
 have hu30 := Tryz.underlying30
 have HB := am_ (Below.refl w.heap.size w)
 have H : (if a0_0 = 1 then ((path_Is.f a0_1).bind fun t118 => (if t118 = true then (some true) else (if a0_0 = 2 then ((path_above.f a0_1).bind fun t119 => (some t119)) else (some false)))) else (if a0_0 = 2 then ((path_above.f a0_1).bind fun t120 => (some t120)) else (some false))) = some r := h
 clear h
 by_cases c2 : a0_0 = 1
 ·rw [if_pos c2] at H
  have c2b0 : (a0_0 == 1) = true := beq_iff_eq.mpr c2
  have c2b1 : (a0_0 != 1) = false := bne_eq_false_iff_eq.mpr c2
  clear c2
  replace H := Option.bind_eq_some_iff.mp H
  obtain ⟨t118, A30, H⟩ := H
  replace H : (if t118 = true then (some true) else (if a0_0 = 2 then ((path_above.f a0_1).bind fun t119 => (some t119)) else (some false))) = some r := H
  have A3 := Aside0.mk A30
  clear A30
  by_cases c4 : t118 = true
  ·subst c4
   have H1 : (some true) = some r := by rw [if_pos rfl] at H; exact H
   clear H
   have H := H1
   clear H1
   obtain rfl := Option.some.inj H
   go_enter Tryz.func55, Tryz.ntmps55
   go_wp2_with (first | ((with_reducible refine gate_dst (N := 1) rfl ?_); refine box_event ?hg (N := 1) ?hd (cs := #[.int .i64 a0_0, .string a0_1]) (t := 30) ?hr ?_; (case hd => rfl); (case hg => rfl); (case hr => first | (go_simp; done) | (go_simp; rfl)); intro gb117 hg w5 hbox hb; have n0_ := am_ (below_step (bel_ HB.out) hb); have n1_ := am_ (hbox); have n2_ := am_ ((by rw [hg]; exact (below_size (bel_ HB.out)) : w.heap.size ≤ gb117)); have n3_ := am_ ((by rw [hg]; exact (below_size (bel_ HB.out)) : w.heap.size ≤ gb117)); clear HB; have HB := n0_; have BK117 := n1_; have GW117 := n2_; have GE117 := n3_; clear n0_ n1_ n2_ n3_ hb hbox hg; have hcz6_0 : w5.cell? ⟨gb117, 0, none⟩ = some (.int .i64 a0_0) := (blk_cell BK117.out 0).trans rfl; have hcz6_1 : w5.cell? ⟨gb117, 1, none⟩ = some (.string a0_1) := (blk_cell BK117.out 1).trans rfl; have hfz6_0 := blk_frozen BK117.out 0; have hfz6_1 := blk_frozen BK117.out 1) | (go_at_call 54; (with_reducible refine (path_Is.calls a0_1 true _ A3.out).mono ?_); rintro e w7 ⟨rfl, hb⟩; have n0_ := am_ (blk_below (g := gb117) (o := .cells #[.int .i64 a0_0, .string a0_1] 30 (0, 0)) (blk_ BK117.out) hb); have n1_ := am_ (below_step (bel_ HB.out) hb); clear BK117 HB; have BK117 := n0_; have HB := n1_; clear n0_ n1_; (try clear hb); (try clear hb2); (try clear hk); (try clear hi)))
   go_ret
   exact ⟨fi_, bel_ HB.out⟩
  ·replace c4 := Bool.eq_false_iff.mpr c4
   subst c4
   have H1 : (if a0_0 = 2 then ((path_above.f a0_1).bind fun t119 => (some t119)) else (some false)) = some r := by rw [if_neg (show ¬ (false = true) by decide)] at H; exact H
   clear H
   have H := H1
   clear H1
   by_cases c8 : a0_0 = 2
   ·rw [if_pos c8] at H
    have c8b0 : (a0_0 == 2) = true := beq_iff_eq.mpr c8
    have c8b1 : (a0_0 != 2) = false := bne_eq_false_iff_eq.mpr c8
    clear c8
    replace H := Option.bind_eq_some_iff.mp H
    obtain ⟨t119, A90, H⟩ := H
    replace H : (some t119) = some r := H
    have A9 := Aside0.mk A90
    clear A90
    obtain rfl := Option.some.inj H
    go_enter Tryz.func55, Tryz.ntmps55
    go_wp2_with (first | ((with_reducible refine gate_dst (N := 1) rfl ?_); refine box_event ?hg (N := 1) ?hd (cs := #[.int .i64 a0_0, .string a0_1]) (t := 30) ?hr ?_; (case hd => rfl); (case hg => rfl); (case hr => first | (go_simp; done) | (go_simp; rfl)); intro gb117 hg w10 hbox hb; have n0_ := am_ (below_step (bel_ HB.out) hb); have n1_ := am_ (hbox); have n2_ := am_ ((by rw [hg]; exact (below_size (bel_ HB.out)) : w.heap.size ≤ gb117)); have n3_ := am_ ((by rw [hg]; exact (below_size (bel_ HB.out)) : w.heap.size ≤ gb117)); clear HB; have HB := n0_; have BK117 := n1_; have GW117 := n2_; have GE117 := n3_; clear n0_ n1_ n2_ n3_ hb hbox hg; have hcz11_0 : w10.cell? ⟨gb117, 0, none⟩ = some (.int .i64 a0_0) := (blk_cell BK117.out 0).trans rfl; have hcz11_1 : w10.cell? ⟨gb117, 1, none⟩ = some (.string a0_1) := (blk_cell BK117.out 1).trans rfl; have hfz11_0 := blk_frozen BK117.out 0; have hfz11_1 := blk_frozen BK117.out 1) | (go_at_call 54; (with_reducible refine (path_Is.calls a0_1 false _ A3.out).mono ?_); rintro e w12 ⟨rfl, hb⟩; have n0_ := am_ (blk_below (g := gb117) (o := .cells #[.int .i64 a0_0, .string a0_1] 30 (0, 0)) (blk_ BK117.out) hb); have n1_ := am_ (below_step (bel_ HB.out) hb); clear BK117 HB; have BK117 := n0_; have HB := n1_; clear n0_ n1_; (try clear hb); (try clear hb2); (try clear hk); (try clear hi); have hcz13_0 : w12.cell? ⟨gb117, 0, none⟩ = some (.int .i64 a0_0) := (blk_cell BK117.out 0).trans rfl; have hcz13_1 : w12.cell? ⟨gb117, 1, none⟩ = some (.string a0_1) := (blk_cell BK117.out 1).trans rfl; have hfz13_0 := blk_frozen BK117.out 0; have hfz13_1 := blk_frozen BK117.out 1) | (go_at_call 80; (with_reducible refine (path_above.calls a0_1 t119 _ A9.out).mono ?_); rintro e w14 ⟨rfl, hb⟩; have n0_ := am_ (blk_below (g := gb117) (o := .cells #[.int .i64 a0_0, .string a0_1] 30 (0, 0)) (blk_ BK117.out) hb); have n1_ := am_ (below_step (bel_ HB.out) hb); clear BK117 HB; have BK117 := n0_; have HB := n1_; clear n0_ n1_; (try clear hb); (try clear hb2); (try clear hk); (try clear hi)))
    go_ret
    exact ⟨fi_, bel_ HB.out⟩
   ·rw [if_neg c8] at H
    have c8b0 : (a0_0 == 2) = false := beq_eq_false_iff_ne.mpr c8
    have c8b1 : (a0_0 != 2) = true := bne_iff_ne.mpr c8
    obtain rfl := Option.some.inj H
    go_enter Tryz.func55, Tryz.ntmps55
    go_wp2_with (first | ((with_reducible refine gate_dst (N := 1) rfl ?_); refine box_event ?hg (N := 1) ?hd (cs := #[.int .i64 a0_0, .string a0_1]) (t := 30) ?hr ?_; (case hd => rfl); (case hg => rfl); (case hr => first | (go_simp; done) | (go_simp; rfl)); intro gb117 hg w15 hbox hb; have n0_ := am_ (below_step (bel_ HB.out) hb); have n1_ := am_ (hbox); have n2_ := am_ ((by rw [hg]; exact (below_size (bel_ HB.out)) : w.heap.size ≤ gb117)); have n3_ := am_ ((by rw [hg]; exact (below_size (bel_ HB.out)) : w.heap.size ≤ gb117)); clear HB; have HB := n0_; have BK117 := n1_; have GW117 := n2_; have GE117 := n3_; clear n0_ n1_ n2_ n3_ hb hbox hg; have hcz16_0 : w15.cell? ⟨gb117, 0, none⟩ = some (.int .i64 a0_0) := (blk_cell BK117.out 0).trans rfl; have hcz16_1 : w15.cell? ⟨gb117, 1, none⟩ = some (.string a0_1) := (blk_cell BK117.out 1).trans rfl; have hfz16_0 := blk_frozen BK117.out 0; have hfz16_1 := blk_frozen BK117.out 1) | (go_at_call 54; (with_reducible refine (path_Is.calls a0_1 false _ A3.out).mono ?_); rintro e w17 ⟨rfl, hb⟩; have n0_ := am_ (blk_below (g := gb117) (o := .cells #[.int .i64 a0_0, .string a0_1] 30 (0, 0)) (blk_ BK117.out) hb); have n1_ := am_ (below_step (bel_ HB.out) hb); clear BK117 HB; have BK117 := n0_; have HB := n1_; clear n0_ n1_; (try clear hb); (try clear hb2); (try clear hk); (try clear hi); have hcz18_0 : w17.cell? ⟨gb117, 0, none⟩ = some (.int .i64 a0_0) := (blk_cell BK117.out 0).trans rfl; have hcz18_1 : w17.cell? ⟨gb117, 1, none⟩ = some (.string a0_1) := (blk_cell BK117.out 1).trans rfl; have hfz18_0 := blk_frozen BK117.out 0; have hfz18_1 := blk_frozen BK117.out 1))
    go_ret
    exact ⟨fi_, bel_ HB.out⟩
 ·rw [if_neg c2] at H
  have c2b0 : (a0_0 == 1) = false := beq_eq_false_iff_ne.mpr c2
  have c2b1 : (a0_0 != 1) = true := bne_iff_ne.mpr c2
  by_cases c19 : a0_0 = 2
  ·rw [if_pos c19] at H
   have c19b0 : (a0_0 == 2) = true := beq_iff_eq.mpr c19
   have c19b1 : (a0_0 != 2) = false := bne_eq_false_iff_eq.mpr c19
   clear c19
   replace H := Option.bind_eq_some_iff.mp H
   obtain ⟨t120, A200, H⟩ := H
   replace H : (some t120) = some r := H
   have A20 := Aside0.mk A200
   clear A200
   obtain rfl := Option.some.inj H
   go_enter Tryz.func55, Tryz.ntmps55
   go_wp2_with (first | ((with_reducible refine gate_dst (N := 1) rfl ?_); refine box_event ?hg (N := 1) ?hd (cs := #[.int .i64 a0_0, .string a0_1]) (t := 30) ?hr ?_; (case hd => rfl); (case hg => rfl); (case hr => first | (go_simp; done) | (go_simp; rfl)); intro gb117 hg w21 hbox hb; have n0_ := am_ (below_step (bel_ HB.out) hb); have n1_ := am_ (hbox); have n2_ := am_ ((by rw [hg]; exact (below_size (bel_ HB.out)) : w.heap.size ≤ gb117)); have n3_ := am_ ((by rw [hg]; exact (below_size (bel_ HB.out)) : w.heap.size ≤ gb117)); clear HB; have HB := n0_; have BK117 := n1_; have GW117 := n2_; have GE117 := n3_; clear n0_ n1_ n2_ n3_ hb hbox hg; have hcz22_0 : w21.cell? ⟨gb117, 0, none⟩ = some (.int .i64 a0_0) := (blk_cell BK117.out 0).trans rfl; have hcz22_1 : w21.cell? ⟨gb117, 1, none⟩ = some (.string a0_1) := (blk_cell BK117.out 1).trans rfl; have hfz22_0 := blk_frozen BK117.out 0; have hfz22_1 := blk_frozen BK117.out 1) | (go_at_call 80; (with_reducible refine (path_above.calls a0_1 t120 _ A20.out).mono ?_); rintro e w23 ⟨rfl, hb⟩; have n0_ := am_ (blk_below (g := gb117) (o := .cells #[.int .i64 a0_0, .string a0_1] 30 (0, 0)) (blk_ BK117.out) hb); have n1_ := am_ (below_step (bel_ HB.out) hb); clear BK117 HB; have BK117 := n0_; have HB := n1_; clear n0_ n1_; (try clear hb); (try clear hb2); (try clear hk); (try clear hi)))
   go_ret
   exact ⟨fi_, bel_ HB.out⟩
  ·rw [if_neg c19] at H
   have c19b0 : (a0_0 == 2) = false := beq_eq_false_iff_ne.mpr c19
   have c19b1 : (a0_0 != 2) = true := bne_iff_ne.mpr c19
   obtain rfl := Option.some.inj H
   go_enter Tryz.func55, Tryz.ntmps55
   go_wp2_with (first | ((with_reducible refine gate_dst (N := 1) rfl ?_); refine box_event ?hg (N := 1) ?hd (cs := #[.int .i64 a0_0, .string a0_1]) (t := 30) ?hr ?_; (case hd => rfl); (case hg => rfl); (case hr => first | (go_simp; done) | (go_simp; rfl)); intro gb117 hg w24 hbox hb; have n0_ := am_ (below_step (bel_ HB.out) hb); have n1_ := am_ (hbox); have n2_ := am_ ((by rw [hg]; exact (below_size (bel_ HB.out)) : w.heap.size ≤ gb117)); have n3_ := am_ ((by rw [hg]; exact (below_size (bel_ HB.out)) : w.heap.size ≤ gb117)); clear HB; have HB := n0_; have BK117 := n1_; have GW117 := n2_; have GE117 := n3_; clear n0_ n1_ n2_ n3_ hb hbox hg; have hcz25_0 : w24.cell? ⟨gb117, 0, none⟩ = some (.int .i64 a0_0) := (blk_cell BK117.out 0).trans rfl; have hcz25_1 : w24.cell? ⟨gb117, 1, none⟩ = some (.string a0_1) := (blk_cell BK117.out 1).trans rfl; have hfz25_0 := blk_frozen BK117.out 0; have hfz25_1 := blk_frozen BK117.out 1))
   go_ret
   exact ⟨fi_, bel_ HB.out⟩

/-! ### filter_turns: function 30 -/
def filter_turns.j0 : Nat → Bool → Int → ByteArray → ByteArray → ByteArray → Int → ByteArray → Bool → Int → Option (Bool)
 | 0, _, _, _, _, _, _, _, _, _ => none
 | k + 1, x11, x122000, x122001, x122002, x122003, x122004, x122005, x122006, x122007 => if x11 = true then (some false) else (if x122005.toList = ([] : List UInt8) then (some (!x122006)) else (if x122006 = true then ((path_Is.f x122005).bind fun t123 => (some t123)) else ((path_May.f 2 x122005).bind fun t124 => (some t124))))
def filter_turns.f (k : Nat) (a0_0 : Int) (a0_1 : ByteArray) (a0_2 : ByteArray) (a0_3 : ByteArray) (a0_4 : Int) (a0_5 : ByteArray) (a0_6 : Bool) (a0_7 : Int) : Option (Bool) := if a0_3.toList = ([] : List UInt8) then (filter_turns.j0 k false a0_0 a0_1 a0_2 a0_3 a0_4 a0_5 a0_6 a0_7) else ((dns_Name.f a0_3).bind fun t122 => (filter_turns.j0 k (!t122) a0_0 a0_1 a0_2 a0_3 a0_4 a0_5 a0_6 a0_7))
theorem filter_turns.mono_l : ∀ k, (∀ y0 y1 y2 y3 y4 y5 y6 y7 y8, LeO (filter_turns.j0 k y0 y1 y2 y3 y4 y5 y6 y7 y8) (filter_turns.j0 (k + 1) y0 y1 y2 y3 y4 y5 y6 y7 y8))
 | 0 => fun _ _ _ _ _ _ _ _ _ r h => by simp [filter_turns.j0] at h
 | k + 1 => by
  have ih0 := filter_turns.mono_l k
  ·intro y0 y1 y2 y3 y4 y5 y6 y7 y8
   unfold filter_turns.j0
   repeat' first
   | (with_reducible exact ih0 _ _ _ _ _ _ _ _ _)
   | (with_reducible exact LeO.refl _)
   | (with_reducible exact LeO.none _)
   | (with_reducible refine LeO.ite ?_ ?_)
   | (with_reducible refine LeO.bind ?_ (fun _ => ?_))
   | exact ih0 _ _ _ _ _ _ _ _ _
   | exact LeO.none _
   | refine LeO.ite ?_ ?_
   | refine LeO.bind ?_ (fun _ => ?_)
theorem filter_turns.mono : ∀ a0 a1 a2 a3 a4 a5 a6 a7 k, LeO (filter_turns.f k a0 a1 a2 a3 a4 a5 a6 a7) (filter_turns.f (k + 1) a0 a1 a2 a3 a4 a5 a6 a7) := by
 intro a0 a1 a2 a3 a4 a5 a6 a7 k
 have ih0 := filter_turns.mono_l k
 unfold filter_turns.f
 repeat' first
   | (with_reducible exact ih0 _ _ _ _ _ _ _ _ _)
   | (with_reducible exact LeO.refl _)
   | (with_reducible exact LeO.none _)
   | (with_reducible refine LeO.ite ?_ ?_)
   | (with_reducible refine LeO.bind ?_ (fun _ => ?_))
   | exact ih0 _ _ _ _ _ _ _ _ _
   | exact LeO.none _
   | refine LeO.ite ?_ ?_
   | refine LeO.bind ?_ (fun _ => ?_)
set_option maxHeartbeats 8000000 in
set_option maxRecDepth 100000 in
theorem filter_turns.calls (k : Nat) (a0_0 : Int) (a0_1 : ByteArray) (a0_2 : ByteArray) (a0_3 : ByteArray) (a0_4 : Int) (a0_5 : ByteArray) (a0_6 : Bool) (a0_7 : Int) (r : Bool) (w : World) (h : filter_turns.f k a0_0 a0_1 a0_2 a0_3 a0_4 a0_5 a0_6 a0_7 = some r) :
  Calls Tryz.prog 30 #[.agg #[.int .i64 a0_0, .string a0_1, .string a0_2, .string a0_3, .int .i64 a0_4, .string a0_5, .bool a0_6, .int .i64 a0_7]] w fun e w' => e = .returned (.bool r) ∧ Below w.heap.size w w' := by
 have hu26 := Tryz.underlying26
 have hu30 := Tryz.underlying30
 have HB := am_ (Below.refl w.heap.size w)
 have H : (if a0_3.toList = ([] : List UInt8) then (filter_turns.j0 k false a0_0 a0_1 a0_2 a0_3 a0_4 a0_5 a0_6 a0_7) else ((dns_Name.f a0_3).bind fun t122 => (filter_turns.j0 k (!t122) a0_0 a0_1 a0_2 a0_3 a0_4 a0_5 a0_6 a0_7))) = some r := h
 clear h
 have HC2 := Aside0.mk H
 clear H
 go_enter Tryz.func30, Tryz.ntmps30
 go_upto_region 1 with (first | ((with_reducible refine gate_dst (N := 1) rfl ?_); refine box_event ?hg (N := 1) ?hd (cs := #[.int .i64 a0_0, .string a0_1, .string a0_2, .string a0_3, .int .i64 a0_4, .string a0_5, .bool a0_6, .int .i64 a0_7]) (t := 26) ?hr ?_; (case hd => rfl); (case hg => rfl); (case hr => first | (go_simp; done) | (go_simp; rfl)); intro gb121 hg w3 hbox hb; have n0_ := am_ (below_step (bel_ HB.out) hb); have n1_ := am_ (hbox); have n2_ := am_ ((by rw [hg]; exact (below_size (bel_ HB.out)) : w.heap.size ≤ gb121)); have n3_ := am_ ((by rw [hg]; exact (below_size (bel_ HB.out)) : w.heap.size ≤ gb121)); clear HB; have HB := n0_; have BK121 := n1_; have GW121 := n2_; have GE121 := n3_; clear n0_ n1_ n2_ n3_ hb hbox hg))
 (try simp only [Act.put, List.setIfInBounds_toArray, List.set_cons_zero, List.set_cons_succ])
 go_cut [11] (fun v11 wc => ∃ (kq : Nat) (x11_1 : Bool), v11 = .bool x11_1 ∧ Aside0 (filter_turns.j0 kq x11_1 a0_0 a0_1 a0_2 a0_3 a0_4 a0_5 a0_6 a0_7 = some r) ∧ Aside0 (kq ≤ k) ∧ Aside0 (wc.heap[gb121]? = some (.cells #[.int .i64 a0_0, .string a0_1, .string a0_2, .string a0_3, .int .i64 a0_4, .string a0_5, .bool a0_6, .int .i64 a0_7] 26 (0, 0))) ∧ Aside0 (Below w.heap.size w wc))
 case first =>
  have H := HC2.out
  clear HC2
  by_cases c4 : a0_3.toList = ([] : List UInt8)
  ·rw [if_pos c4] at H
   have c4b0 : (a0_3.toList == ([] : List UInt8)) = true := beq_iff_eq.mpr c4
   have c4b1 : (a0_3.toList != ([] : List UInt8)) = false := bne_eq_false_iff_eq.mpr c4
   clear c4
   (first | rw [c4b0] | rw [c4b1] | rw [c4b2] | (simp only [i64_w, i32_w]; rw [c4b0]) | skip)
   have H' := Aside0.mk H
   clear H
   have hcz5_0 : w3.cell? ⟨gb121, 0, none⟩ = some (.int .i64 a0_0) := (blk_cell BK121.out 0).trans rfl
   have hcz5_1 : w3.cell? ⟨gb121, 1, none⟩ = some (.string a0_1) := (blk_cell BK121.out 1).trans rfl
   have hcz5_2 : w3.cell? ⟨gb121, 2, none⟩ = some (.string a0_2) := (blk_cell BK121.out 2).trans rfl
   have hcz5_3 : w3.cell? ⟨gb121, 3, none⟩ = some (.string a0_3) := (blk_cell BK121.out 3).trans rfl
   have hcz5_4 : w3.cell? ⟨gb121, 4, none⟩ = some (.int .i64 a0_4) := (blk_cell BK121.out 4).trans rfl
   have hcz5_5 : w3.cell? ⟨gb121, 5, none⟩ = some (.string a0_5) := (blk_cell BK121.out 5).trans rfl
   have hcz5_6 : w3.cell? ⟨gb121, 6, none⟩ = some (.bool a0_6) := (blk_cell BK121.out 6).trans rfl
   have hcz5_7 : w3.cell? ⟨gb121, 7, none⟩ = some (.int .i64 a0_7) := (blk_cell BK121.out 7).trans rfl
   have hfz5_0 := blk_frozen BK121.out 0
   have hfz5_1 := blk_frozen BK121.out 1
   have hfz5_2 := blk_frozen BK121.out 2
   have hfz5_3 := blk_frozen BK121.out 3
   have hfz5_4 := blk_frozen BK121.out 4
   have hfz5_5 := blk_frozen BK121.out 5
   have hfz5_6 := blk_frozen BK121.out 6
   have hfz5_7 := blk_frozen BK121.out 7
   go_wp2
   go_meet
   case rel => exact ⟨_, (false), sd_, H', ⟨by first | omega | exact Nat.le_refl _⟩, ⟨by (with_reducible repeat (first | refine blk_drewN ?_ _ | refine blk_drew ?_ | refine blk_alloc ?_ _)); exact BK121.out⟩, ⟨bel_ HB.out⟩⟩
  ·rw [if_neg c4] at H
   have c4b0 : (a0_3.toList == ([] : List UInt8)) = false := beq_eq_false_iff_ne.mpr c4
   have c4b1 : (a0_3.toList != ([] : List UInt8)) = true := bne_iff_ne.mpr c4
   (first | rw [c4b0] | rw [c4b1] | rw [c4b2] | (simp only [i64_w, i32_w]; rw [c4b0]) | skip)
   replace H := Option.bind_eq_some_iff.mp H
   obtain ⟨t122, A60, H⟩ := H
   replace H : (filter_turns.j0 k (!t122) a0_0 a0_1 a0_2 a0_3 a0_4 a0_5 a0_6 a0_7) = some r := H
   have A6 := Aside0.mk A60
   clear A60
   have H' := Aside0.mk H
   clear H
   have hcz7_0 : w3.cell? ⟨gb121, 0, none⟩ = some (.int .i64 a0_0) := (blk_cell BK121.out 0).trans rfl
   have hcz7_1 : w3.cell? ⟨gb121, 1, none⟩ = some (.string a0_1) := (blk_cell BK121.out 1).trans rfl
   have hcz7_2 : w3.cell? ⟨gb121, 2, none⟩ = some (.string a0_2) := (blk_cell BK121.out 2).trans rfl
   have hcz7_3 : w3.cell? ⟨gb121, 3, none⟩ = some (.string a0_3) := (blk_cell BK121.out 3).trans rfl
   have hcz7_4 : w3.cell? ⟨gb121, 4, none⟩ = some (.int .i64 a0_4) := (blk_cell BK121.out 4).trans rfl
   have hcz7_5 : w3.cell? ⟨gb121, 5, none⟩ = some (.string a0_5) := (blk_cell BK121.out 5).trans rfl
   have hcz7_6 : w3.cell? ⟨gb121, 6, none⟩ = some (.bool a0_6) := (blk_cell BK121.out 6).trans rfl
   have hcz7_7 : w3.cell? ⟨gb121, 7, none⟩ = some (.int .i64 a0_7) := (blk_cell BK121.out 7).trans rfl
   have hfz7_0 := blk_frozen BK121.out 0
   have hfz7_1 := blk_frozen BK121.out 1
   have hfz7_2 := blk_frozen BK121.out 2
   have hfz7_3 := blk_frozen BK121.out 3
   have hfz7_4 := blk_frozen BK121.out 4
   have hfz7_5 := blk_frozen BK121.out 5
   have hfz7_6 := blk_frozen BK121.out 6
   have hfz7_7 := blk_frozen BK121.out 7
   go_wp2_with (first | (go_at_call 53; (with_reducible refine (dns_Name.calls a0_3 t122 _ A6.out).mono ?_); rintro e w8 ⟨rfl, hb⟩; have n0_ := am_ (blk_below (g := gb121) (o := .cells #[.int .i64 a0_0, .string a0_1, .string a0_2, .string a0_3, .int .i64 a0_4, .string a0_5, .bool a0_6, .int .i64 a0_7] 26 (0, 0)) (blk_ BK121.out) hb); have n1_ := am_ (below_step (bel_ HB.out) hb); clear BK121 HB; have BK121 := n0_; have HB := n1_; clear n0_ n1_; (try clear hb); (try clear hb2); (try clear hk); (try clear hi)))
   go_meet
   case rel => exact ⟨_, (!t122), sd_, H', ⟨by first | omega | exact Nat.le_refl _⟩, ⟨by (with_reducible repeat (first | refine blk_drewN ?_ _ | refine blk_drew ?_ | refine blk_alloc ?_ _)); exact BK121.out⟩, ⟨bel_ HB.out⟩⟩
 case rest =>
  clear HC2
  try clear p2
  try clear c3
  try clear c4
  try clear c4b0
  try clear c4b1
  try clear c4b2
  try clear hcz5_0
  try clear hcz5_1
  try clear hcz5_2
  try clear hcz5_3
  try clear hcz5_4
  try clear hcz5_5
  try clear hcz5_6
  try clear hcz5_7
  try clear hcz7_0
  try clear hcz7_1
  try clear hcz7_2
  try clear hcz7_3
  try clear hcz7_4
  try clear hcz7_5
  try clear hcz7_6
  try clear hcz7_7
  try clear hfz5_0
  try clear hfz5_1
  try clear hfz5_2
  try clear hfz5_3
  try clear hfz5_4
  try clear hfz5_5
  try clear hfz5_6
  try clear hfz5_7
  try clear hfz7_0
  try clear hfz7_1
  try clear hfz7_2
  try clear hfz7_3
  try clear hfz7_4
  try clear hfz7_5
  try clear hfz7_6
  try clear hfz7_7
  obtain ⟨kq, x11_1, rfl, HA, HJ1, BK121, HB⟩ := hcut
  cases kq with
  | zero => exact absurd HA.out (by simp [filter_turns.j0])
  | succ kj1 =>
   have H := HA.out
   clear HA
   simp only [filter_turns.j0] at H
   by_cases c9 : x11_1 = true
   ·subst c9
    have H1 : (some false) = some r := by rw [if_pos rfl] at H; exact H
    clear H
    have H := H1
    clear H1
    obtain rfl := Option.some.inj H
    go_wp2
    go_ret
    exact ⟨fi_, bel_ HB.out⟩
   ·replace c9 := Bool.eq_false_iff.mpr c9
    subst c9
    have H1 : (if a0_5.toList = ([] : List UInt8) then (some (!a0_6)) else (if a0_6 = true then ((path_Is.f a0_5).bind fun t123 => (some t123)) else ((path_May.f 2 a0_5).bind fun t124 => (some t124)))) = some r := by rw [if_neg (show ¬ (false = true) by decide)] at H; exact H
    clear H
    have H := H1
    clear H1
    by_cases c10 : a0_5.toList = ([] : List UInt8)
    ·rw [if_pos c10] at H
     have c10b0 : (a0_5.toList == ([] : List UInt8)) = true := beq_iff_eq.mpr c10
     have c10b1 : (a0_5.toList != ([] : List UInt8)) = false := bne_eq_false_iff_eq.mpr c10
     clear c10
     obtain rfl := Option.some.inj H
     have hcz11_0 : wc.cell? ⟨gb121, 0, none⟩ = some (.int .i64 a0_0) := (blk_cell BK121.out 0).trans rfl
     have hcz11_1 : wc.cell? ⟨gb121, 1, none⟩ = some (.string a0_1) := (blk_cell BK121.out 1).trans rfl
     have hcz11_2 : wc.cell? ⟨gb121, 2, none⟩ = some (.string a0_2) := (blk_cell BK121.out 2).trans rfl
     have hcz11_3 : wc.cell? ⟨gb121, 3, none⟩ = some (.string a0_3) := (blk_cell BK121.out 3).trans rfl
     have hcz11_4 : wc.cell? ⟨gb121, 4, none⟩ = some (.int .i64 a0_4) := (blk_cell BK121.out 4).trans rfl
     have hcz11_5 : wc.cell? ⟨gb121, 5, none⟩ = some (.string a0_5) := (blk_cell BK121.out 5).trans rfl
     have hcz11_6 : wc.cell? ⟨gb121, 6, none⟩ = some (.bool a0_6) := (blk_cell BK121.out 6).trans rfl
     have hcz11_7 : wc.cell? ⟨gb121, 7, none⟩ = some (.int .i64 a0_7) := (blk_cell BK121.out 7).trans rfl
     have hfz11_0 := blk_frozen BK121.out 0
     have hfz11_1 := blk_frozen BK121.out 1
     have hfz11_2 := blk_frozen BK121.out 2
     have hfz11_3 := blk_frozen BK121.out 3
     have hfz11_4 := blk_frozen BK121.out 4
     have hfz11_5 := blk_frozen BK121.out 5
     have hfz11_6 := blk_frozen BK121.out 6
     have hfz11_7 := blk_frozen BK121.out 7
     go_wp2
     go_ret
     exact ⟨fi_, bel_ HB.out⟩
    ·rw [if_neg c10] at H
     have c10b0 : (a0_5.toList == ([] : List UInt8)) = false := beq_eq_false_iff_ne.mpr c10
     have c10b1 : (a0_5.toList != ([] : List UInt8)) = true := bne_iff_ne.mpr c10
     by_cases c12 : a0_6 = true
     ·subst c12
      have H1 : ((path_Is.f a0_5).bind fun t123 => (some t123)) = some r := by rw [if_pos rfl] at H; exact H
      clear H
      have H := H1
      clear H1
      replace H := Option.bind_eq_some_iff.mp H
      obtain ⟨t123, A130, H⟩ := H
      replace H : (some t123) = some r := H
      have A13 := Aside0.mk A130
      clear A130
      obtain rfl := Option.some.inj H
      have hcz14_0 : wc.cell? ⟨gb121, 0, none⟩ = some (.int .i64 a0_0) := (blk_cell BK121.out 0).trans rfl
      have hcz14_1 : wc.cell? ⟨gb121, 1, none⟩ = some (.string a0_1) := (blk_cell BK121.out 1).trans rfl
      have hcz14_2 : wc.cell? ⟨gb121, 2, none⟩ = some (.string a0_2) := (blk_cell BK121.out 2).trans rfl
      have hcz14_3 : wc.cell? ⟨gb121, 3, none⟩ = some (.string a0_3) := (blk_cell BK121.out 3).trans rfl
      have hcz14_4 : wc.cell? ⟨gb121, 4, none⟩ = some (.int .i64 a0_4) := (blk_cell BK121.out 4).trans rfl
      have hcz14_5 : wc.cell? ⟨gb121, 5, none⟩ = some (.string a0_5) := (blk_cell BK121.out 5).trans rfl
      have hcz14_6 : wc.cell? ⟨gb121, 6, none⟩ = some (.bool true) := (blk_cell BK121.out 6).trans rfl
      have hcz14_7 : wc.cell? ⟨gb121, 7, none⟩ = some (.int .i64 a0_7) := (blk_cell BK121.out 7).trans rfl
      have hfz14_0 := blk_frozen BK121.out 0
      have hfz14_1 := blk_frozen BK121.out 1
      have hfz14_2 := blk_frozen BK121.out 2
      have hfz14_3 := blk_frozen BK121.out 3
      have hfz14_4 := blk_frozen BK121.out 4
      have hfz14_5 := blk_frozen BK121.out 5
      have hfz14_6 := blk_frozen BK121.out 6
      have hfz14_7 := blk_frozen BK121.out 7
      go_wp2_with (first | ((with_reducible refine gate_callee (f := 54) rfl ?_); refine goesL_ (some 24) rfl rfl Tryz.func54 kr_ rfl #[.string a0_5] rfl rl_ ?_; (with_reducible refine (path_Is.calls a0_5 t123 _ A13.out).mono ?_); rintro e w15 ⟨rfl, hb⟩; refine ⟨_, rfl, ?_⟩; have n0_ := am_ (blk_below (g := gb121) (o := .cells #[.int .i64 a0_0, .string a0_1, .string a0_2, .string a0_3, .int .i64 a0_4, .string a0_5, .bool true, .int .i64 a0_7] 26 (0, 0)) (blk_ BK121.out) hb); have n1_ := am_ (below_step (bel_ HB.out) hb); clear BK121 HB; have BK121 := n0_; have HB := n1_; clear n0_ n1_; (try clear hb); (try clear hb2); (try clear hk); (try clear hi)))
      go_ret
      exact ⟨fi_, bel_ HB.out⟩
     ·replace c12 := Bool.eq_false_iff.mpr c12
      subst c12
      have H1 : ((path_May.f 2 a0_5).bind fun t124 => (some t124)) = some r := by rw [if_neg (show ¬ (false = true) by decide)] at H; exact H
      clear H
      have H := H1
      clear H1
      replace H := Option.bind_eq_some_iff.mp H
      obtain ⟨t124, A160, H⟩ := H
      replace H : (some t124) = some r := H
      have A16 := Aside0.mk A160
      clear A160
      obtain rfl := Option.some.inj H
      have hcz17_0 : wc.cell? ⟨gb121, 0, none⟩ = some (.int .i64 a0_0) := (blk_cell BK121.out 0).trans rfl
      have hcz17_1 : wc.cell? ⟨gb121, 1, none⟩ = some (.string a0_1) := (blk_cell BK121.out 1).trans rfl
      have hcz17_2 : wc.cell? ⟨gb121, 2, none⟩ = some (.string a0_2) := (blk_cell BK121.out 2).trans rfl
      have hcz17_3 : wc.cell? ⟨gb121, 3, none⟩ = some (.string a0_3) := (blk_cell BK121.out 3).trans rfl
      have hcz17_4 : wc.cell? ⟨gb121, 4, none⟩ = some (.int .i64 a0_4) := (blk_cell BK121.out 4).trans rfl
      have hcz17_5 : wc.cell? ⟨gb121, 5, none⟩ = some (.string a0_5) := (blk_cell BK121.out 5).trans rfl
      have hcz17_6 : wc.cell? ⟨gb121, 6, none⟩ = some (.bool false) := (blk_cell BK121.out 6).trans rfl
      have hcz17_7 : wc.cell? ⟨gb121, 7, none⟩ = some (.int .i64 a0_7) := (blk_cell BK121.out 7).trans rfl
      have hfz17_0 := blk_frozen BK121.out 0
      have hfz17_1 := blk_frozen BK121.out 1
      have hfz17_2 := blk_frozen BK121.out 2
      have hfz17_3 := blk_frozen BK121.out 3
      have hfz17_4 := blk_frozen BK121.out 4
      have hfz17_5 := blk_frozen BK121.out 5
      have hfz17_6 := blk_frozen BK121.out 6
      have hfz17_7 := blk_frozen BK121.out 7
      go_wp2_with (first | ((with_reducible refine gate_callee (f := 55) rfl ?_); refine goesL_ (some 28) rfl rfl Tryz.func55 kr_ rfl #[.agg #[.int .i64 2, .string a0_5]] rfl rl_ ?_; (with_reducible refine (path_May.calls 2 a0_5 t124 _ A16.out).mono ?_); rintro e w18 ⟨rfl, hb⟩; refine ⟨_, rfl, ?_⟩; have n0_ := am_ (blk_below (g := gb121) (o := .cells #[.int .i64 a0_0, .string a0_1, .string a0_2, .string a0_3, .int .i64 a0_4, .string a0_5, .bool false, .int .i64 a0_7] 26 (0, 0)) (blk_ BK121.out) hb); have n1_ := am_ (below_step (bel_ HB.out) hb); clear BK121 HB; have BK121 := n0_; have HB := n1_; clear n0_ n1_; (try clear hb); (try clear hb2); (try clear hk); (try clear hi)))
      go_ret
      exact ⟨fi_, bel_ HB.out⟩

/-! ### filter_May: function 10 -/
def filter_May.j0 : Nat → Int → Bool → Int → ByteArray → ByteArray → ByteArray → Int → ByteArray → Bool → Int → Option (Bool)
 | 0, _, _, _, _, _, _, _, _, _, _ => none
 | k + 1, x4, x5, x126000, x126001, x126002, x126003, x126004, x126005, x126006, x126007 => if x5 = true then (if (x126003.toList == ([] : List UInt8) && (x126004 == 0 && (x126005.toList == ([] : List UInt8) && (!x126006 && (x126007 == 0))))) = true then ((pairs_Token.f k x126001).bind fun t126 => (if t126 = true then ((pairs_Value.f k x126002).bind fun t127 => (some t127)) else (some false))) else (some false)) else (if x4 = 3 then (if (x126002.toList == ([] : List UInt8) && (x126003.toList == ([] : List UInt8) && (x126004 == 0 && (x126005.toList == ([] : List UInt8) && (!x126006 && (x126007 == 0)))))) = true then ((pairs_Token.f k x126001).bind fun t128 => (some t128)) else (some false)) else (if x4 = 4 then (if x126001.toList = ([] : List UInt8) then (if x126002.toList = ([] : List UInt8) then ((filter_turns.f k x126000 x126001 x126002 x126003 x126004 x126005 x126006 x126007).bind fun t129 => (if t129 = true then (if x126004 ≥ 0 then (if x126004 ≤ 65535 then (if x126007 = 301 then (some true) else (some (x126007 == 302))) else (some false)) else (some false)) else (some false))) else (some false)) else (some false)) else (if x4 = 5 then (if (x126001.toList == ([] : List UInt8) && (x126002.toList == ([] : List UInt8) && (x126004 == 0 && (x126007 == 0)))) = true then ((filter_turns.f k x126000 x126001 x126002 x126003 x126004 x126005 x126006 x126007).bind fun t130 => (if t130 = true then (if x126003.toList = ([] : List UInt8) then (some (x126005.toList != ([] : List UInt8))) else (some true)) else (some false))) else (some false)) else (some false))))
def filter_May.f (k : Nat) (a0_0 : Int) (a0_1 : ByteArray) (a0_2 : ByteArray) (a0_3 : ByteArray) (a0_4 : Int) (a0_5 : ByteArray) (a0_6 : Bool) (a0_7 : Int) : Option (Bool) := if a0_0 = 1 then (filter_May.j0 k a0_0 (a0_0 == 1) a0_0 a0_1 a0_2 a0_3 a0_4 a0_5 a0_6 a0_7) else (filter_May.j0 k a0_0 (a0_0 == 2) a0_0 a0_1 a0_2 a0_3 a0_4 a0_5 a0_6 a0_7)
theorem filter_May.mono_l : ∀ k, (∀ y0 y1 y2 y3 y4 y5 y6 y7 y8 y9, LeO (filter_May.j0 k y0 y1 y2 y3 y4 y5 y6 y7 y8 y9) (filter_May.j0 (k + 1) y0 y1 y2 y3 y4 y5 y6 y7 y8 y9))
 | 0 => fun _ _ _ _ _ _ _ _ _ _ r h => by simp [filter_May.j0] at h
 | k + 1 => by
  have ih0 := filter_May.mono_l k
  ·intro y0 y1 y2 y3 y4 y5 y6 y7 y8 y9
   unfold filter_May.j0
   repeat' first
   | (with_reducible exact ih0 _ _ _ _ _ _ _ _ _ _)
   | (with_reducible exact filter_turns.mono _ _ _ _ _ _ _ _ _)
   | (with_reducible exact pairs_Token.mono _ _)
   | (with_reducible exact pairs_Value.mono _ _)
   | (with_reducible exact LeO.refl _)
   | (with_reducible exact LeO.none _)
   | (with_reducible refine LeO.ite ?_ ?_)
   | (with_reducible refine LeO.bind ?_ (fun _ => ?_))
   | exact ih0 _ _ _ _ _ _ _ _ _ _
   | exact filter_turns.mono _ _ _ _ _ _ _ _ _
   | exact pairs_Token.mono _ _
   | exact pairs_Value.mono _ _
   | exact LeO.none _
   | refine LeO.ite ?_ ?_
   | refine LeO.bind ?_ (fun _ => ?_)
theorem filter_May.mono : ∀ a0 a1 a2 a3 a4 a5 a6 a7 k, LeO (filter_May.f k a0 a1 a2 a3 a4 a5 a6 a7) (filter_May.f (k + 1) a0 a1 a2 a3 a4 a5 a6 a7) := by
 intro a0 a1 a2 a3 a4 a5 a6 a7 k
 have ih0 := filter_May.mono_l k
 unfold filter_May.f
 repeat' first
   | (with_reducible exact ih0 _ _ _ _ _ _ _ _ _ _)
   | (with_reducible exact filter_turns.mono _ _ _ _ _ _ _ _ _)
   | (with_reducible exact pairs_Token.mono _ _)
   | (with_reducible exact pairs_Value.mono _ _)
   | (with_reducible exact LeO.refl _)
   | (with_reducible exact LeO.none _)
   | (with_reducible refine LeO.ite ?_ ?_)
   | (with_reducible refine LeO.bind ?_ (fun _ => ?_))
   | exact ih0 _ _ _ _ _ _ _ _ _ _
   | exact filter_turns.mono _ _ _ _ _ _ _ _ _
   | exact pairs_Token.mono _ _
   | exact pairs_Value.mono _ _
   | exact LeO.none _
   | refine LeO.ite ?_ ?_
   | refine LeO.bind ?_ (fun _ => ?_)
set_option maxHeartbeats 8000000 in
set_option maxRecDepth 100000 in
theorem filter_May.calls (k : Nat) (a0_0 : Int) (a0_1 : ByteArray) (a0_2 : ByteArray) (a0_3 : ByteArray) (a0_4 : Int) (a0_5 : ByteArray) (a0_6 : Bool) (a0_7 : Int) (r : Bool) (w : World) (h : filter_May.f k a0_0 a0_1 a0_2 a0_3 a0_4 a0_5 a0_6 a0_7 = some r) :
  Calls Tryz.prog 10 #[.agg #[.int .i64 a0_0, .string a0_1, .string a0_2, .string a0_3, .int .i64 a0_4, .string a0_5, .bool a0_6, .int .i64 a0_7]] w fun e w' => e = .returned (.bool r) ∧ Below w.heap.size w w' := by
 have hu26 := Tryz.underlying26
 have HB := am_ (Below.refl w.heap.size w)
 have H : (if a0_0 = 1 then (filter_May.j0 k a0_0 (a0_0 == 1) a0_0 a0_1 a0_2 a0_3 a0_4 a0_5 a0_6 a0_7) else (filter_May.j0 k a0_0 (a0_0 == 2) a0_0 a0_1 a0_2 a0_3 a0_4 a0_5 a0_6 a0_7)) = some r := h
 clear h
 have HC2 := Aside0.mk H
 clear H
 go_enter Tryz.func10, Tryz.ntmps10
 go_upto_if 5 with (first | ((with_reducible refine gate_dst (N := 1) rfl ?_); refine box_event ?hg (N := 1) ?hd (cs := #[.int .i64 a0_0, .string a0_1, .string a0_2, .string a0_3, .int .i64 a0_4, .string a0_5, .bool a0_6, .int .i64 a0_7]) (t := 26) ?hr ?_; (case hd => rfl); (case hg => rfl); (case hr => first | (go_simp; done) | (go_simp; rfl)); intro gb125 hg w3 hbox hb; have n0_ := am_ (below_step (bel_ HB.out) hb); have n1_ := am_ (hbox); have n2_ := am_ ((by rw [hg]; exact (below_size (bel_ HB.out)) : w.heap.size ≤ gb125)); have n3_ := am_ ((by rw [hg]; exact (below_size (bel_ HB.out)) : w.heap.size ≤ gb125)); clear HB; have HB := n0_; have BK125 := n1_; have GW125 := n2_; have GE125 := n3_; clear n0_ n1_ n2_ n3_ hb hbox hg; have hcz4_0 : w3.cell? ⟨gb125, 0, none⟩ = some (.int .i64 a0_0) := (blk_cell BK125.out 0).trans rfl; have hcz4_1 : w3.cell? ⟨gb125, 1, none⟩ = some (.string a0_1) := (blk_cell BK125.out 1).trans rfl; have hcz4_2 : w3.cell? ⟨gb125, 2, none⟩ = some (.string a0_2) := (blk_cell BK125.out 2).trans rfl; have hcz4_3 : w3.cell? ⟨gb125, 3, none⟩ = some (.string a0_3) := (blk_cell BK125.out 3).trans rfl; have hcz4_4 : w3.cell? ⟨gb125, 4, none⟩ = some (.int .i64 a0_4) := (blk_cell BK125.out 4).trans rfl; have hcz4_5 : w3.cell? ⟨gb125, 5, none⟩ = some (.string a0_5) := (blk_cell BK125.out 5).trans rfl; have hcz4_6 : w3.cell? ⟨gb125, 6, none⟩ = some (.bool a0_6) := (blk_cell BK125.out 6).trans rfl; have hcz4_7 : w3.cell? ⟨gb125, 7, none⟩ = some (.int .i64 a0_7) := (blk_cell BK125.out 7).trans rfl; have hfz4_0 := blk_frozen BK125.out 0; have hfz4_1 := blk_frozen BK125.out 1; have hfz4_2 := blk_frozen BK125.out 2; have hfz4_3 := blk_frozen BK125.out 3; have hfz4_4 := blk_frozen BK125.out 4; have hfz4_5 := blk_frozen BK125.out 5; have hfz4_6 := blk_frozen BK125.out 6; have hfz4_7 := blk_frozen BK125.out 7))
 (try simp only [Act.put, List.setIfInBounds_toArray, List.set_cons_zero, List.set_cons_succ])
 go_cut [5] (fun v5 wc => ∃ (kq : Nat) (x5_1 : Bool), v5 = .bool x5_1 ∧ Aside0 (filter_May.j0 kq a0_0 x5_1 a0_0 a0_1 a0_2 a0_3 a0_4 a0_5 a0_6 a0_7 = some r) ∧ Aside0 (kq ≤ k) ∧ Aside0 (wc.heap[gb125]? = some (.cells #[.int .i64 a0_0, .string a0_1, .string a0_2, .string a0_3, .int .i64 a0_4, .string a0_5, .bool a0_6, .int .i64 a0_7] 26 (0, 0))) ∧ Aside0 (Below w.heap.size w wc))
 case first =>
  have H := HC2.out
  clear HC2
  by_cases c5 : a0_0 = 1
  ·rw [if_pos c5] at H
   have c5b0 : (a0_0 == 1) = true := beq_iff_eq.mpr c5
   have c5b1 : (a0_0 != 1) = false := bne_eq_false_iff_eq.mpr c5
   clear c5
   (first | rw [c5b0] | rw [c5b1] | rw [c5b2] | (simp only [i64_w, i32_w]; rw [c5b0]) | skip)
   have H' := Aside0.mk H
   clear H
   go_wp2
   go_meet
   case rel => exact ⟨_, ((a0_0 == 1)), sd_, H', ⟨by first | omega | exact Nat.le_refl _⟩, ⟨by (with_reducible repeat (first | refine blk_drewN ?_ _ | refine blk_drew ?_ | refine blk_alloc ?_ _)); exact BK125.out⟩, ⟨bel_ HB.out⟩⟩
  ·rw [if_neg c5] at H
   have c5b0 : (a0_0 == 1) = false := beq_eq_false_iff_ne.mpr c5
   have c5b1 : (a0_0 != 1) = true := bne_iff_ne.mpr c5
   (first | rw [c5b0] | rw [c5b1] | rw [c5b2] | (simp only [i64_w, i32_w]; rw [c5b0]) | skip)
   have H' := Aside0.mk H
   clear H
   go_wp2
   go_meet
   case rel => exact ⟨_, ((a0_0 == 2)), sd_, H', ⟨by first | omega | exact Nat.le_refl _⟩, ⟨by (with_reducible repeat (first | refine blk_drewN ?_ _ | refine blk_drew ?_ | refine blk_alloc ?_ _)); exact BK125.out⟩, ⟨bel_ HB.out⟩⟩
 case rest =>
  clear HC2
  try clear c1
  try clear p2
  try clear c5
  try clear c5b0
  try clear c5b1
  try clear c5b2
  try clear hcz4_0
  try clear hcz4_1
  try clear hcz4_2
  try clear hcz4_3
  try clear hcz4_4
  try clear hcz4_5
  try clear hcz4_6
  try clear hcz4_7
  try clear hfz4_0
  try clear hfz4_1
  try clear hfz4_2
  try clear hfz4_3
  try clear hfz4_4
  try clear hfz4_5
  try clear hfz4_6
  try clear hfz4_7
  obtain ⟨kq, x5_1, rfl, HA, HJ1, BK125, HB⟩ := hcut
  cases kq with
  | zero => exact absurd HA.out (by simp [filter_May.j0])
  | succ kj1 =>
   have H := HA.out
   clear HA
   simp only [filter_May.j0] at H
   by_cases c6 : x5_1 = true
   ·subst c6
    have H1 : (if (a0_3.toList == ([] : List UInt8) && (a0_4 == 0 && (a0_5.toList == ([] : List UInt8) && (!a0_6 && (a0_7 == 0))))) = true then ((pairs_Token.f kj1 a0_1).bind fun t126 => (if t126 = true then ((pairs_Value.f kj1 a0_2).bind fun t127 => (some t127)) else (some false))) else (some false)) = some r := by rw [if_pos rfl] at H; exact H
    clear H
    have H := H1
    clear H1
    by_cases c7 : (a0_3.toList == ([] : List UInt8) && (a0_4 == 0 && (a0_5.toList == ([] : List UInt8) && (!a0_6 && (a0_7 == 0))))) = true
    ·rw [if_pos c7] at H
     (try (have c7k := c7; simp only [Bool.and_eq_true, beq_iff_eq, Bool.not_eq_true'] at c7k; have c7l := eq_true c7k; clear c7k)); (try (have c7m := c7; simp only [beq_nil_isEmpty] at c7m))
     have c7b0 : (a0_3.toList == ([] : List UInt8) && (a0_4 == 0 && (a0_5.toList == ([] : List UInt8) && (!a0_6 && (a0_7 == 0))))) = true := c7
     (try (have c7b1 : decide (a0_3.toList = ([] : List UInt8) && (a0_4 == 0 && (a0_5.toList == ([] : List UInt8) && (!a0_6 && (a0_7 == 0))))) = true := by simpa using c7))
     (try (have c7b2 : (a0_3.toList == ([] : List UInt8) && (a0_4 == 0 && (a0_5.toList == ([] : List UInt8) && (!a0_6 && (a0_7 == 0))))) = true := by simpa using c7))
     clear c7
     replace H := Option.bind_eq_some_iff.mp H
     obtain ⟨t126, A80, H⟩ := H
     replace H : (if t126 = true then ((pairs_Value.f kj1 a0_2).bind fun t127 => (some t127)) else (some false)) = some r := H
     have A8 := Aside0.mk A80
     clear A80
     by_cases c9 : t126 = true
     ·subst c9
      have H1 : ((pairs_Value.f kj1 a0_2).bind fun t127 => (some t127)) = some r := by rw [if_pos rfl] at H; exact H
      clear H
      have H := H1
      clear H1
      replace H := Option.bind_eq_some_iff.mp H
      obtain ⟨t127, A100, H⟩ := H
      replace H : (some t127) = some r := H
      have A10 := Aside0.mk A100
      clear A100
      obtain rfl := Option.some.inj H
      have hcz11_0 : wc.cell? ⟨gb125, 0, none⟩ = some (.int .i64 a0_0) := (blk_cell BK125.out 0).trans rfl
      have hcz11_1 : wc.cell? ⟨gb125, 1, none⟩ = some (.string a0_1) := (blk_cell BK125.out 1).trans rfl
      have hcz11_2 : wc.cell? ⟨gb125, 2, none⟩ = some (.string a0_2) := (blk_cell BK125.out 2).trans rfl
      have hcz11_3 : wc.cell? ⟨gb125, 3, none⟩ = some (.string a0_3) := (blk_cell BK125.out 3).trans rfl
      have hcz11_4 : wc.cell? ⟨gb125, 4, none⟩ = some (.int .i64 a0_4) := (blk_cell BK125.out 4).trans rfl
      have hcz11_5 : wc.cell? ⟨gb125, 5, none⟩ = some (.string a0_5) := (blk_cell BK125.out 5).trans rfl
      have hcz11_6 : wc.cell? ⟨gb125, 6, none⟩ = some (.bool a0_6) := (blk_cell BK125.out 6).trans rfl
      have hcz11_7 : wc.cell? ⟨gb125, 7, none⟩ = some (.int .i64 a0_7) := (blk_cell BK125.out 7).trans rfl
      have hfz11_0 := blk_frozen BK125.out 0
      have hfz11_1 := blk_frozen BK125.out 1
      have hfz11_2 := blk_frozen BK125.out 2
      have hfz11_3 := blk_frozen BK125.out 3
      have hfz11_4 := blk_frozen BK125.out 4
      have hfz11_5 := blk_frozen BK125.out 5
      have hfz11_6 := blk_frozen BK125.out 6
      have hfz11_7 := blk_frozen BK125.out 7
      go_wp2_with (first | (go_at_call 28; (with_reducible refine (pairs_Token.calls kj1 a0_1 true _ A8.out).mono ?_); rintro e w' ⟨rfl, ⟨nd, rfl⟩⟩) | (go_at_call 29; (with_reducible refine (pairs_Value.calls kj1 a0_2 t127 _ A10.out).mono ?_); rintro e w12 ⟨rfl, hb⟩; have n0_ := am_ (blk_below (g := gb125) (o := .cells #[.int .i64 a0_0, .string a0_1, .string a0_2, .string a0_3, .int .i64 a0_4, .string a0_5, .bool a0_6, .int .i64 a0_7] 26 (0, 0)) (blk_ BK125.out) hb); have n1_ := am_ (below_step (bel_ HB.out) hb); clear BK125 HB; have BK125 := n0_; have HB := n1_; clear n0_ n1_; (try clear hb); (try clear hb2); (try clear hk); (try clear hi)))
      go_ret
      exact ⟨fi_, bel_ HB.out⟩
     ·replace c9 := Bool.eq_false_iff.mpr c9
      subst c9
      have H1 : (some false) = some r := by rw [if_neg (show ¬ (false = true) by decide)] at H; exact H
      clear H
      have H := H1
      clear H1
      obtain rfl := Option.some.inj H
      have hcz13_0 : wc.cell? ⟨gb125, 0, none⟩ = some (.int .i64 a0_0) := (blk_cell BK125.out 0).trans rfl
      have hcz13_1 : wc.cell? ⟨gb125, 1, none⟩ = some (.string a0_1) := (blk_cell BK125.out 1).trans rfl
      have hcz13_2 : wc.cell? ⟨gb125, 2, none⟩ = some (.string a0_2) := (blk_cell BK125.out 2).trans rfl
      have hcz13_3 : wc.cell? ⟨gb125, 3, none⟩ = some (.string a0_3) := (blk_cell BK125.out 3).trans rfl
      have hcz13_4 : wc.cell? ⟨gb125, 4, none⟩ = some (.int .i64 a0_4) := (blk_cell BK125.out 4).trans rfl
      have hcz13_5 : wc.cell? ⟨gb125, 5, none⟩ = some (.string a0_5) := (blk_cell BK125.out 5).trans rfl
      have hcz13_6 : wc.cell? ⟨gb125, 6, none⟩ = some (.bool a0_6) := (blk_cell BK125.out 6).trans rfl
      have hcz13_7 : wc.cell? ⟨gb125, 7, none⟩ = some (.int .i64 a0_7) := (blk_cell BK125.out 7).trans rfl
      have hfz13_0 := blk_frozen BK125.out 0
      have hfz13_1 := blk_frozen BK125.out 1
      have hfz13_2 := blk_frozen BK125.out 2
      have hfz13_3 := blk_frozen BK125.out 3
      have hfz13_4 := blk_frozen BK125.out 4
      have hfz13_5 := blk_frozen BK125.out 5
      have hfz13_6 := blk_frozen BK125.out 6
      have hfz13_7 := blk_frozen BK125.out 7
      go_wp2_with (first | (go_at_call 28; (with_reducible refine (pairs_Token.calls kj1 a0_1 false _ A8.out).mono ?_); rintro e w' ⟨rfl, ⟨nd, rfl⟩⟩))
      go_ret
      exact ⟨fi_, bel_ HB.out⟩
    ·rw [if_neg c7] at H
     (try (have c7k := c7; simp only [Bool.and_eq_true, beq_iff_eq, Bool.not_eq_true'] at c7k; have c7l := eq_false c7k; clear c7k)); (try (have c7m := c7; simp only [beq_nil_isEmpty] at c7m))
     have c7b0 : (a0_3.toList == ([] : List UInt8) && (a0_4 == 0 && (a0_5.toList == ([] : List UInt8) && (!a0_6 && (a0_7 == 0))))) = false := by simpa using c7
     (try (have c7b1 : decide (a0_3.toList = ([] : List UInt8) && (a0_4 == 0 && (a0_5.toList == ([] : List UInt8) && (!a0_6 && (a0_7 == 0))))) = false := by simpa using c7))
     (try (have c7b2 : (a0_3.toList == ([] : List UInt8) && (a0_4 == 0 && (a0_5.toList == ([] : List UInt8) && (!a0_6 && (a0_7 == 0))))) = false := by simpa using c7))
     (try (have c7b3 : ¬ (a0_3.toList = ([] : List UInt8) && (a0_4 == 0 && (a0_5.toList == ([] : List UInt8) && (!a0_6 && (a0_7 == 0))))) := by simpa using c7))
     clear c7
     obtain rfl := Option.some.inj H
     have hcz14_0 : wc.cell? ⟨gb125, 0, none⟩ = some (.int .i64 a0_0) := (blk_cell BK125.out 0).trans rfl
     have hcz14_1 : wc.cell? ⟨gb125, 1, none⟩ = some (.string a0_1) := (blk_cell BK125.out 1).trans rfl
     have hcz14_2 : wc.cell? ⟨gb125, 2, none⟩ = some (.string a0_2) := (blk_cell BK125.out 2).trans rfl
     have hcz14_3 : wc.cell? ⟨gb125, 3, none⟩ = some (.string a0_3) := (blk_cell BK125.out 3).trans rfl
     have hcz14_4 : wc.cell? ⟨gb125, 4, none⟩ = some (.int .i64 a0_4) := (blk_cell BK125.out 4).trans rfl
     have hcz14_5 : wc.cell? ⟨gb125, 5, none⟩ = some (.string a0_5) := (blk_cell BK125.out 5).trans rfl
     have hcz14_6 : wc.cell? ⟨gb125, 6, none⟩ = some (.bool a0_6) := (blk_cell BK125.out 6).trans rfl
     have hcz14_7 : wc.cell? ⟨gb125, 7, none⟩ = some (.int .i64 a0_7) := (blk_cell BK125.out 7).trans rfl
     have hfz14_0 := blk_frozen BK125.out 0
     have hfz14_1 := blk_frozen BK125.out 1
     have hfz14_2 := blk_frozen BK125.out 2
     have hfz14_3 := blk_frozen BK125.out 3
     have hfz14_4 := blk_frozen BK125.out 4
     have hfz14_5 := blk_frozen BK125.out 5
     have hfz14_6 := blk_frozen BK125.out 6
     have hfz14_7 := blk_frozen BK125.out 7
     go_wp2
     go_ret
     exact ⟨fi_, bel_ HB.out⟩
   ·replace c6 := Bool.eq_false_iff.mpr c6
    subst c6
    have H1 : (if a0_0 = 3 then (if (a0_2.toList == ([] : List UInt8) && (a0_3.toList == ([] : List UInt8) && (a0_4 == 0 && (a0_5.toList == ([] : List UInt8) && (!a0_6 && (a0_7 == 0)))))) = true then ((pairs_Token.f kj1 a0_1).bind fun t128 => (some t128)) else (some false)) else (if a0_0 = 4 then (if a0_1.toList = ([] : List UInt8) then (if a0_2.toList = ([] : List UInt8) then ((filter_turns.f kj1 a0_0 a0_1 a0_2 a0_3 a0_4 a0_5 a0_6 a0_7).bind fun t129 => (if t129 = true then (if a0_4 ≥ 0 then (if a0_4 ≤ 65535 then (if a0_7 = 301 then (some true) else (some (a0_7 == 302))) else (some false)) else (some false)) else (some false))) else (some false)) else (some false)) else (if a0_0 = 5 then (if (a0_1.toList == ([] : List UInt8) && (a0_2.toList == ([] : List UInt8) && (a0_4 == 0 && (a0_7 == 0)))) = true then ((filter_turns.f kj1 a0_0 a0_1 a0_2 a0_3 a0_4 a0_5 a0_6 a0_7).bind fun t130 => (if t130 = true then (if a0_3.toList = ([] : List UInt8) then (some (a0_5.toList != ([] : List UInt8))) else (some true)) else (some false))) else (some false)) else (some false)))) = some r := by rw [if_neg (show ¬ (false = true) by decide)] at H; exact H
    clear H
    have H := H1
    clear H1
    by_cases c15 : a0_0 = 3
    ·rw [if_pos c15] at H
     have c15b0 : (a0_0 == 3) = true := beq_iff_eq.mpr c15
     have c15b1 : (a0_0 != 3) = false := bne_eq_false_iff_eq.mpr c15
     clear c15
     by_cases c16 : (a0_2.toList == ([] : List UInt8) && (a0_3.toList == ([] : List UInt8) && (a0_4 == 0 && (a0_5.toList == ([] : List UInt8) && (!a0_6 && (a0_7 == 0)))))) = true
     ·rw [if_pos c16] at H
      (try (have c16k := c16; simp only [Bool.and_eq_true, beq_iff_eq, Bool.not_eq_true'] at c16k; have c16l := eq_true c16k; clear c16k)); (try (have c16m := c16; simp only [beq_nil_isEmpty] at c16m))
      have c16b0 : (a0_2.toList == ([] : List UInt8) && (a0_3.toList == ([] : List UInt8) && (a0_4 == 0 && (a0_5.toList == ([] : List UInt8) && (!a0_6 && (a0_7 == 0)))))) = true := c16
      (try (have c16b1 : decide (a0_2.toList = ([] : List UInt8) && (a0_3.toList == ([] : List UInt8) && (a0_4 == 0 && (a0_5.toList == ([] : List UInt8) && (!a0_6 && (a0_7 == 0)))))) = true := by simpa using c16))
      (try (have c16b2 : (a0_2.toList == ([] : List UInt8) && (a0_3.toList == ([] : List UInt8) && (a0_4 == 0 && (a0_5.toList == ([] : List UInt8) && (!a0_6 && (a0_7 == 0)))))) = true := by simpa using c16))
      clear c16
      replace H := Option.bind_eq_some_iff.mp H
      obtain ⟨t128, A170, H⟩ := H
      replace H : (some t128) = some r := H
      have A17 := Aside0.mk A170
      clear A170
      obtain rfl := Option.some.inj H
      have hcz18_0 : wc.cell? ⟨gb125, 0, none⟩ = some (.int .i64 a0_0) := (blk_cell BK125.out 0).trans rfl
      have hcz18_1 : wc.cell? ⟨gb125, 1, none⟩ = some (.string a0_1) := (blk_cell BK125.out 1).trans rfl
      have hcz18_2 : wc.cell? ⟨gb125, 2, none⟩ = some (.string a0_2) := (blk_cell BK125.out 2).trans rfl
      have hcz18_3 : wc.cell? ⟨gb125, 3, none⟩ = some (.string a0_3) := (blk_cell BK125.out 3).trans rfl
      have hcz18_4 : wc.cell? ⟨gb125, 4, none⟩ = some (.int .i64 a0_4) := (blk_cell BK125.out 4).trans rfl
      have hcz18_5 : wc.cell? ⟨gb125, 5, none⟩ = some (.string a0_5) := (blk_cell BK125.out 5).trans rfl
      have hcz18_6 : wc.cell? ⟨gb125, 6, none⟩ = some (.bool a0_6) := (blk_cell BK125.out 6).trans rfl
      have hcz18_7 : wc.cell? ⟨gb125, 7, none⟩ = some (.int .i64 a0_7) := (blk_cell BK125.out 7).trans rfl
      have hfz18_0 := blk_frozen BK125.out 0
      have hfz18_1 := blk_frozen BK125.out 1
      have hfz18_2 := blk_frozen BK125.out 2
      have hfz18_3 := blk_frozen BK125.out 3
      have hfz18_4 := blk_frozen BK125.out 4
      have hfz18_5 := blk_frozen BK125.out 5
      have hfz18_6 := blk_frozen BK125.out 6
      have hfz18_7 := blk_frozen BK125.out 7
      go_wp2_with (first | (go_at_call 28; (with_reducible refine (pairs_Token.calls kj1 a0_1 t128 _ A17.out).mono ?_); rintro e w' ⟨rfl, ⟨nd, rfl⟩⟩))
      go_ret
      exact ⟨fi_, bel_ HB.out⟩
     ·rw [if_neg c16] at H
      (try (have c16k := c16; simp only [Bool.and_eq_true, beq_iff_eq, Bool.not_eq_true'] at c16k; have c16l := eq_false c16k; clear c16k)); (try (have c16m := c16; simp only [beq_nil_isEmpty] at c16m))
      have c16b0 : (a0_2.toList == ([] : List UInt8) && (a0_3.toList == ([] : List UInt8) && (a0_4 == 0 && (a0_5.toList == ([] : List UInt8) && (!a0_6 && (a0_7 == 0)))))) = false := by simpa using c16
      (try (have c16b1 : decide (a0_2.toList = ([] : List UInt8) && (a0_3.toList == ([] : List UInt8) && (a0_4 == 0 && (a0_5.toList == ([] : List UInt8) && (!a0_6 && (a0_7 == 0)))))) = false := by simpa using c16))
      (try (have c16b2 : (a0_2.toList == ([] : List UInt8) && (a0_3.toList == ([] : List UInt8) && (a0_4 == 0 && (a0_5.toList == ([] : List UInt8) && (!a0_6 && (a0_7 == 0)))))) = false := by simpa using c16))
      (try (have c16b3 : ¬ (a0_2.toList = ([] : List UInt8) && (a0_3.toList == ([] : List UInt8) && (a0_4 == 0 && (a0_5.toList == ([] : List UInt8) && (!a0_6 && (a0_7 == 0)))))) := by simpa using c16))
      clear c16
      obtain rfl := Option.some.inj H
      have hcz19_0 : wc.cell? ⟨gb125, 0, none⟩ = some (.int .i64 a0_0) := (blk_cell BK125.out 0).trans rfl
      have hcz19_1 : wc.cell? ⟨gb125, 1, none⟩ = some (.string a0_1) := (blk_cell BK125.out 1).trans rfl
      have hcz19_2 : wc.cell? ⟨gb125, 2, none⟩ = some (.string a0_2) := (blk_cell BK125.out 2).trans rfl
      have hcz19_3 : wc.cell? ⟨gb125, 3, none⟩ = some (.string a0_3) := (blk_cell BK125.out 3).trans rfl
      have hcz19_4 : wc.cell? ⟨gb125, 4, none⟩ = some (.int .i64 a0_4) := (blk_cell BK125.out 4).trans rfl
      have hcz19_5 : wc.cell? ⟨gb125, 5, none⟩ = some (.string a0_5) := (blk_cell BK125.out 5).trans rfl
      have hcz19_6 : wc.cell? ⟨gb125, 6, none⟩ = some (.bool a0_6) := (blk_cell BK125.out 6).trans rfl
      have hcz19_7 : wc.cell? ⟨gb125, 7, none⟩ = some (.int .i64 a0_7) := (blk_cell BK125.out 7).trans rfl
      have hfz19_0 := blk_frozen BK125.out 0
      have hfz19_1 := blk_frozen BK125.out 1
      have hfz19_2 := blk_frozen BK125.out 2
      have hfz19_3 := blk_frozen BK125.out 3
      have hfz19_4 := blk_frozen BK125.out 4
      have hfz19_5 := blk_frozen BK125.out 5
      have hfz19_6 := blk_frozen BK125.out 6
      have hfz19_7 := blk_frozen BK125.out 7
      go_wp2
      go_ret
      exact ⟨fi_, bel_ HB.out⟩
    ·rw [if_neg c15] at H
     have c15b0 : (a0_0 == 3) = false := beq_eq_false_iff_ne.mpr c15
     have c15b1 : (a0_0 != 3) = true := bne_iff_ne.mpr c15
     by_cases c20 : a0_0 = 4
     ·rw [if_pos c20] at H
      have c20b0 : (a0_0 == 4) = true := beq_iff_eq.mpr c20
      have c20b1 : (a0_0 != 4) = false := bne_eq_false_iff_eq.mpr c20
      clear c20
      by_cases c21 : a0_1.toList = ([] : List UInt8)
      ·rw [if_pos c21] at H
       have c21b0 : (a0_1.toList == ([] : List UInt8)) = true := beq_iff_eq.mpr c21
       have c21b1 : (a0_1.toList != ([] : List UInt8)) = false := bne_eq_false_iff_eq.mpr c21
       clear c21
       by_cases c22 : a0_2.toList = ([] : List UInt8)
       ·rw [if_pos c22] at H
        have c22b0 : (a0_2.toList == ([] : List UInt8)) = true := beq_iff_eq.mpr c22
        have c22b1 : (a0_2.toList != ([] : List UInt8)) = false := bne_eq_false_iff_eq.mpr c22
        clear c22
        replace H := Option.bind_eq_some_iff.mp H
        obtain ⟨t129, A230, H⟩ := H
        replace H : (if t129 = true then (if a0_4 ≥ 0 then (if a0_4 ≤ 65535 then (if a0_7 = 301 then (some true) else (some (a0_7 == 302))) else (some false)) else (some false)) else (some false)) = some r := H
        have A23 := Aside0.mk A230
        clear A230
        by_cases c24 : t129 = true
        ·subst c24
         have H1 : (if a0_4 ≥ 0 then (if a0_4 ≤ 65535 then (if a0_7 = 301 then (some true) else (some (a0_7 == 302))) else (some false)) else (some false)) = some r := by rw [if_pos rfl] at H; exact H
         clear H
         have H := H1
         clear H1
         by_cases c25 : a0_4 ≥ 0
         ·rw [if_pos c25] at H
          have c25b0 : decide (0 ≤ a0_4) = true := decide_eq_true c25
          clear c25
          by_cases c26 : a0_4 ≤ 65535
          ·rw [if_pos c26] at H
           have c26b0 : decide (a0_4 ≤ 65535) = true := decide_eq_true c26
           clear c26
           by_cases c27 : a0_7 = 301
           ·rw [if_pos c27] at H
            have c27b0 : (a0_7 == 301) = true := beq_iff_eq.mpr c27
            have c27b1 : (a0_7 != 301) = false := bne_eq_false_iff_eq.mpr c27
            clear c27
            obtain rfl := Option.some.inj H
            have hcz28_0 : wc.cell? ⟨gb125, 0, none⟩ = some (.int .i64 a0_0) := (blk_cell BK125.out 0).trans rfl
            have hcz28_1 : wc.cell? ⟨gb125, 1, none⟩ = some (.string a0_1) := (blk_cell BK125.out 1).trans rfl
            have hcz28_2 : wc.cell? ⟨gb125, 2, none⟩ = some (.string a0_2) := (blk_cell BK125.out 2).trans rfl
            have hcz28_3 : wc.cell? ⟨gb125, 3, none⟩ = some (.string a0_3) := (blk_cell BK125.out 3).trans rfl
            have hcz28_4 : wc.cell? ⟨gb125, 4, none⟩ = some (.int .i64 a0_4) := (blk_cell BK125.out 4).trans rfl
            have hcz28_5 : wc.cell? ⟨gb125, 5, none⟩ = some (.string a0_5) := (blk_cell BK125.out 5).trans rfl
            have hcz28_6 : wc.cell? ⟨gb125, 6, none⟩ = some (.bool a0_6) := (blk_cell BK125.out 6).trans rfl
            have hcz28_7 : wc.cell? ⟨gb125, 7, none⟩ = some (.int .i64 a0_7) := (blk_cell BK125.out 7).trans rfl
            have hfz28_0 := blk_frozen BK125.out 0
            have hfz28_1 := blk_frozen BK125.out 1
            have hfz28_2 := blk_frozen BK125.out 2
            have hfz28_3 := blk_frozen BK125.out 3
            have hfz28_4 := blk_frozen BK125.out 4
            have hfz28_5 := blk_frozen BK125.out 5
            have hfz28_6 := blk_frozen BK125.out 6
            have hfz28_7 := blk_frozen BK125.out 7
            go_wp2_with (first | (go_at_call 30; (with_reducible refine (filter_turns.calls kj1 a0_0 a0_1 a0_2 a0_3 a0_4 a0_5 a0_6 a0_7 true _ A23.out).mono ?_); rintro e w29 ⟨rfl, hb⟩; have n0_ := am_ (blk_below (g := gb125) (o := .cells #[.int .i64 a0_0, .string a0_1, .string a0_2, .string a0_3, .int .i64 a0_4, .string a0_5, .bool a0_6, .int .i64 a0_7] 26 (0, 0)) (blk_ BK125.out) hb); have n1_ := am_ (below_step (bel_ HB.out) hb); clear BK125 HB; have BK125 := n0_; have HB := n1_; clear n0_ n1_; (try clear hb); (try clear hb2); (try clear hk); (try clear hi); have hcz30_0 : w29.cell? ⟨gb125, 0, none⟩ = some (.int .i64 a0_0) := (blk_cell BK125.out 0).trans rfl; have hcz30_1 : w29.cell? ⟨gb125, 1, none⟩ = some (.string a0_1) := (blk_cell BK125.out 1).trans rfl; have hcz30_2 : w29.cell? ⟨gb125, 2, none⟩ = some (.string a0_2) := (blk_cell BK125.out 2).trans rfl; have hcz30_3 : w29.cell? ⟨gb125, 3, none⟩ = some (.string a0_3) := (blk_cell BK125.out 3).trans rfl; have hcz30_4 : w29.cell? ⟨gb125, 4, none⟩ = some (.int .i64 a0_4) := (blk_cell BK125.out 4).trans rfl; have hcz30_5 : w29.cell? ⟨gb125, 5, none⟩ = some (.string a0_5) := (blk_cell BK125.out 5).trans rfl; have hcz30_6 : w29.cell? ⟨gb125, 6, none⟩ = some (.bool a0_6) := (blk_cell BK125.out 6).trans rfl; have hcz30_7 : w29.cell? ⟨gb125, 7, none⟩ = some (.int .i64 a0_7) := (blk_cell BK125.out 7).trans rfl; have hfz30_0 := blk_frozen BK125.out 0; have hfz30_1 := blk_frozen BK125.out 1; have hfz30_2 := blk_frozen BK125.out 2; have hfz30_3 := blk_frozen BK125.out 3; have hfz30_4 := blk_frozen BK125.out 4; have hfz30_5 := blk_frozen BK125.out 5; have hfz30_6 := blk_frozen BK125.out 6; have hfz30_7 := blk_frozen BK125.out 7))
            go_ret
            exact ⟨fi_, bel_ HB.out⟩
           ·rw [if_neg c27] at H
            have c27b0 : (a0_7 == 301) = false := beq_eq_false_iff_ne.mpr c27
            have c27b1 : (a0_7 != 301) = true := bne_iff_ne.mpr c27
            obtain rfl := Option.some.inj H
            have hcz31_0 : wc.cell? ⟨gb125, 0, none⟩ = some (.int .i64 a0_0) := (blk_cell BK125.out 0).trans rfl
            have hcz31_1 : wc.cell? ⟨gb125, 1, none⟩ = some (.string a0_1) := (blk_cell BK125.out 1).trans rfl
            have hcz31_2 : wc.cell? ⟨gb125, 2, none⟩ = some (.string a0_2) := (blk_cell BK125.out 2).trans rfl
            have hcz31_3 : wc.cell? ⟨gb125, 3, none⟩ = some (.string a0_3) := (blk_cell BK125.out 3).trans rfl
            have hcz31_4 : wc.cell? ⟨gb125, 4, none⟩ = some (.int .i64 a0_4) := (blk_cell BK125.out 4).trans rfl
            have hcz31_5 : wc.cell? ⟨gb125, 5, none⟩ = some (.string a0_5) := (blk_cell BK125.out 5).trans rfl
            have hcz31_6 : wc.cell? ⟨gb125, 6, none⟩ = some (.bool a0_6) := (blk_cell BK125.out 6).trans rfl
            have hcz31_7 : wc.cell? ⟨gb125, 7, none⟩ = some (.int .i64 a0_7) := (blk_cell BK125.out 7).trans rfl
            have hfz31_0 := blk_frozen BK125.out 0
            have hfz31_1 := blk_frozen BK125.out 1
            have hfz31_2 := blk_frozen BK125.out 2
            have hfz31_3 := blk_frozen BK125.out 3
            have hfz31_4 := blk_frozen BK125.out 4
            have hfz31_5 := blk_frozen BK125.out 5
            have hfz31_6 := blk_frozen BK125.out 6
            have hfz31_7 := blk_frozen BK125.out 7
            go_wp2_with (first | (go_at_call 30; (with_reducible refine (filter_turns.calls kj1 a0_0 a0_1 a0_2 a0_3 a0_4 a0_5 a0_6 a0_7 true _ A23.out).mono ?_); rintro e w32 ⟨rfl, hb⟩; have n0_ := am_ (blk_below (g := gb125) (o := .cells #[.int .i64 a0_0, .string a0_1, .string a0_2, .string a0_3, .int .i64 a0_4, .string a0_5, .bool a0_6, .int .i64 a0_7] 26 (0, 0)) (blk_ BK125.out) hb); have n1_ := am_ (below_step (bel_ HB.out) hb); clear BK125 HB; have BK125 := n0_; have HB := n1_; clear n0_ n1_; (try clear hb); (try clear hb2); (try clear hk); (try clear hi); have hcz33_0 : w32.cell? ⟨gb125, 0, none⟩ = some (.int .i64 a0_0) := (blk_cell BK125.out 0).trans rfl; have hcz33_1 : w32.cell? ⟨gb125, 1, none⟩ = some (.string a0_1) := (blk_cell BK125.out 1).trans rfl; have hcz33_2 : w32.cell? ⟨gb125, 2, none⟩ = some (.string a0_2) := (blk_cell BK125.out 2).trans rfl; have hcz33_3 : w32.cell? ⟨gb125, 3, none⟩ = some (.string a0_3) := (blk_cell BK125.out 3).trans rfl; have hcz33_4 : w32.cell? ⟨gb125, 4, none⟩ = some (.int .i64 a0_4) := (blk_cell BK125.out 4).trans rfl; have hcz33_5 : w32.cell? ⟨gb125, 5, none⟩ = some (.string a0_5) := (blk_cell BK125.out 5).trans rfl; have hcz33_6 : w32.cell? ⟨gb125, 6, none⟩ = some (.bool a0_6) := (blk_cell BK125.out 6).trans rfl; have hcz33_7 : w32.cell? ⟨gb125, 7, none⟩ = some (.int .i64 a0_7) := (blk_cell BK125.out 7).trans rfl; have hfz33_0 := blk_frozen BK125.out 0; have hfz33_1 := blk_frozen BK125.out 1; have hfz33_2 := blk_frozen BK125.out 2; have hfz33_3 := blk_frozen BK125.out 3; have hfz33_4 := blk_frozen BK125.out 4; have hfz33_5 := blk_frozen BK125.out 5; have hfz33_6 := blk_frozen BK125.out 6; have hfz33_7 := blk_frozen BK125.out 7))
            go_ret
            exact ⟨fi_, bel_ HB.out⟩
          ·rw [if_neg c26] at H
           have c26b0 : decide (a0_4 ≤ 65535) = false := decide_eq_false c26
           clear c26
           obtain rfl := Option.some.inj H
           have hcz34_0 : wc.cell? ⟨gb125, 0, none⟩ = some (.int .i64 a0_0) := (blk_cell BK125.out 0).trans rfl
           have hcz34_1 : wc.cell? ⟨gb125, 1, none⟩ = some (.string a0_1) := (blk_cell BK125.out 1).trans rfl
           have hcz34_2 : wc.cell? ⟨gb125, 2, none⟩ = some (.string a0_2) := (blk_cell BK125.out 2).trans rfl
           have hcz34_3 : wc.cell? ⟨gb125, 3, none⟩ = some (.string a0_3) := (blk_cell BK125.out 3).trans rfl
           have hcz34_4 : wc.cell? ⟨gb125, 4, none⟩ = some (.int .i64 a0_4) := (blk_cell BK125.out 4).trans rfl
           have hcz34_5 : wc.cell? ⟨gb125, 5, none⟩ = some (.string a0_5) := (blk_cell BK125.out 5).trans rfl
           have hcz34_6 : wc.cell? ⟨gb125, 6, none⟩ = some (.bool a0_6) := (blk_cell BK125.out 6).trans rfl
           have hcz34_7 : wc.cell? ⟨gb125, 7, none⟩ = some (.int .i64 a0_7) := (blk_cell BK125.out 7).trans rfl
           have hfz34_0 := blk_frozen BK125.out 0
           have hfz34_1 := blk_frozen BK125.out 1
           have hfz34_2 := blk_frozen BK125.out 2
           have hfz34_3 := blk_frozen BK125.out 3
           have hfz34_4 := blk_frozen BK125.out 4
           have hfz34_5 := blk_frozen BK125.out 5
           have hfz34_6 := blk_frozen BK125.out 6
           have hfz34_7 := blk_frozen BK125.out 7
           go_wp2_with (first | (go_at_call 30; (with_reducible refine (filter_turns.calls kj1 a0_0 a0_1 a0_2 a0_3 a0_4 a0_5 a0_6 a0_7 true _ A23.out).mono ?_); rintro e w35 ⟨rfl, hb⟩; have n0_ := am_ (blk_below (g := gb125) (o := .cells #[.int .i64 a0_0, .string a0_1, .string a0_2, .string a0_3, .int .i64 a0_4, .string a0_5, .bool a0_6, .int .i64 a0_7] 26 (0, 0)) (blk_ BK125.out) hb); have n1_ := am_ (below_step (bel_ HB.out) hb); clear BK125 HB; have BK125 := n0_; have HB := n1_; clear n0_ n1_; (try clear hb); (try clear hb2); (try clear hk); (try clear hi); have hcz36_0 : w35.cell? ⟨gb125, 0, none⟩ = some (.int .i64 a0_0) := (blk_cell BK125.out 0).trans rfl; have hcz36_1 : w35.cell? ⟨gb125, 1, none⟩ = some (.string a0_1) := (blk_cell BK125.out 1).trans rfl; have hcz36_2 : w35.cell? ⟨gb125, 2, none⟩ = some (.string a0_2) := (blk_cell BK125.out 2).trans rfl; have hcz36_3 : w35.cell? ⟨gb125, 3, none⟩ = some (.string a0_3) := (blk_cell BK125.out 3).trans rfl; have hcz36_4 : w35.cell? ⟨gb125, 4, none⟩ = some (.int .i64 a0_4) := (blk_cell BK125.out 4).trans rfl; have hcz36_5 : w35.cell? ⟨gb125, 5, none⟩ = some (.string a0_5) := (blk_cell BK125.out 5).trans rfl; have hcz36_6 : w35.cell? ⟨gb125, 6, none⟩ = some (.bool a0_6) := (blk_cell BK125.out 6).trans rfl; have hcz36_7 : w35.cell? ⟨gb125, 7, none⟩ = some (.int .i64 a0_7) := (blk_cell BK125.out 7).trans rfl; have hfz36_0 := blk_frozen BK125.out 0; have hfz36_1 := blk_frozen BK125.out 1; have hfz36_2 := blk_frozen BK125.out 2; have hfz36_3 := blk_frozen BK125.out 3; have hfz36_4 := blk_frozen BK125.out 4; have hfz36_5 := blk_frozen BK125.out 5; have hfz36_6 := blk_frozen BK125.out 6; have hfz36_7 := blk_frozen BK125.out 7))
           go_ret
           exact ⟨fi_, bel_ HB.out⟩
         ·rw [if_neg c25] at H
          have c25b0 : decide (0 ≤ a0_4) = false := decide_eq_false c25
          clear c25
          obtain rfl := Option.some.inj H
          have hcz37_0 : wc.cell? ⟨gb125, 0, none⟩ = some (.int .i64 a0_0) := (blk_cell BK125.out 0).trans rfl
          have hcz37_1 : wc.cell? ⟨gb125, 1, none⟩ = some (.string a0_1) := (blk_cell BK125.out 1).trans rfl
          have hcz37_2 : wc.cell? ⟨gb125, 2, none⟩ = some (.string a0_2) := (blk_cell BK125.out 2).trans rfl
          have hcz37_3 : wc.cell? ⟨gb125, 3, none⟩ = some (.string a0_3) := (blk_cell BK125.out 3).trans rfl
          have hcz37_4 : wc.cell? ⟨gb125, 4, none⟩ = some (.int .i64 a0_4) := (blk_cell BK125.out 4).trans rfl
          have hcz37_5 : wc.cell? ⟨gb125, 5, none⟩ = some (.string a0_5) := (blk_cell BK125.out 5).trans rfl
          have hcz37_6 : wc.cell? ⟨gb125, 6, none⟩ = some (.bool a0_6) := (blk_cell BK125.out 6).trans rfl
          have hcz37_7 : wc.cell? ⟨gb125, 7, none⟩ = some (.int .i64 a0_7) := (blk_cell BK125.out 7).trans rfl
          have hfz37_0 := blk_frozen BK125.out 0
          have hfz37_1 := blk_frozen BK125.out 1
          have hfz37_2 := blk_frozen BK125.out 2
          have hfz37_3 := blk_frozen BK125.out 3
          have hfz37_4 := blk_frozen BK125.out 4
          have hfz37_5 := blk_frozen BK125.out 5
          have hfz37_6 := blk_frozen BK125.out 6
          have hfz37_7 := blk_frozen BK125.out 7
          go_wp2_with (first | (go_at_call 30; (with_reducible refine (filter_turns.calls kj1 a0_0 a0_1 a0_2 a0_3 a0_4 a0_5 a0_6 a0_7 true _ A23.out).mono ?_); rintro e w38 ⟨rfl, hb⟩; have n0_ := am_ (blk_below (g := gb125) (o := .cells #[.int .i64 a0_0, .string a0_1, .string a0_2, .string a0_3, .int .i64 a0_4, .string a0_5, .bool a0_6, .int .i64 a0_7] 26 (0, 0)) (blk_ BK125.out) hb); have n1_ := am_ (below_step (bel_ HB.out) hb); clear BK125 HB; have BK125 := n0_; have HB := n1_; clear n0_ n1_; (try clear hb); (try clear hb2); (try clear hk); (try clear hi); have hcz39_0 : w38.cell? ⟨gb125, 0, none⟩ = some (.int .i64 a0_0) := (blk_cell BK125.out 0).trans rfl; have hcz39_1 : w38.cell? ⟨gb125, 1, none⟩ = some (.string a0_1) := (blk_cell BK125.out 1).trans rfl; have hcz39_2 : w38.cell? ⟨gb125, 2, none⟩ = some (.string a0_2) := (blk_cell BK125.out 2).trans rfl; have hcz39_3 : w38.cell? ⟨gb125, 3, none⟩ = some (.string a0_3) := (blk_cell BK125.out 3).trans rfl; have hcz39_4 : w38.cell? ⟨gb125, 4, none⟩ = some (.int .i64 a0_4) := (blk_cell BK125.out 4).trans rfl; have hcz39_5 : w38.cell? ⟨gb125, 5, none⟩ = some (.string a0_5) := (blk_cell BK125.out 5).trans rfl; have hcz39_6 : w38.cell? ⟨gb125, 6, none⟩ = some (.bool a0_6) := (blk_cell BK125.out 6).trans rfl; have hcz39_7 : w38.cell? ⟨gb125, 7, none⟩ = some (.int .i64 a0_7) := (blk_cell BK125.out 7).trans rfl; have hfz39_0 := blk_frozen BK125.out 0; have hfz39_1 := blk_frozen BK125.out 1; have hfz39_2 := blk_frozen BK125.out 2; have hfz39_3 := blk_frozen BK125.out 3; have hfz39_4 := blk_frozen BK125.out 4; have hfz39_5 := blk_frozen BK125.out 5; have hfz39_6 := blk_frozen BK125.out 6; have hfz39_7 := blk_frozen BK125.out 7))
          go_ret
          exact ⟨fi_, bel_ HB.out⟩
        ·replace c24 := Bool.eq_false_iff.mpr c24
         subst c24
         have H1 : (some false) = some r := by rw [if_neg (show ¬ (false = true) by decide)] at H; exact H
         clear H
         have H := H1
         clear H1
         obtain rfl := Option.some.inj H
         have hcz40_0 : wc.cell? ⟨gb125, 0, none⟩ = some (.int .i64 a0_0) := (blk_cell BK125.out 0).trans rfl
         have hcz40_1 : wc.cell? ⟨gb125, 1, none⟩ = some (.string a0_1) := (blk_cell BK125.out 1).trans rfl
         have hcz40_2 : wc.cell? ⟨gb125, 2, none⟩ = some (.string a0_2) := (blk_cell BK125.out 2).trans rfl
         have hcz40_3 : wc.cell? ⟨gb125, 3, none⟩ = some (.string a0_3) := (blk_cell BK125.out 3).trans rfl
         have hcz40_4 : wc.cell? ⟨gb125, 4, none⟩ = some (.int .i64 a0_4) := (blk_cell BK125.out 4).trans rfl
         have hcz40_5 : wc.cell? ⟨gb125, 5, none⟩ = some (.string a0_5) := (blk_cell BK125.out 5).trans rfl
         have hcz40_6 : wc.cell? ⟨gb125, 6, none⟩ = some (.bool a0_6) := (blk_cell BK125.out 6).trans rfl
         have hcz40_7 : wc.cell? ⟨gb125, 7, none⟩ = some (.int .i64 a0_7) := (blk_cell BK125.out 7).trans rfl
         have hfz40_0 := blk_frozen BK125.out 0
         have hfz40_1 := blk_frozen BK125.out 1
         have hfz40_2 := blk_frozen BK125.out 2
         have hfz40_3 := blk_frozen BK125.out 3
         have hfz40_4 := blk_frozen BK125.out 4
         have hfz40_5 := blk_frozen BK125.out 5
         have hfz40_6 := blk_frozen BK125.out 6
         have hfz40_7 := blk_frozen BK125.out 7
         go_wp2_with (first | (go_at_call 30; (with_reducible refine (filter_turns.calls kj1 a0_0 a0_1 a0_2 a0_3 a0_4 a0_5 a0_6 a0_7 false _ A23.out).mono ?_); rintro e w41 ⟨rfl, hb⟩; have n0_ := am_ (blk_below (g := gb125) (o := .cells #[.int .i64 a0_0, .string a0_1, .string a0_2, .string a0_3, .int .i64 a0_4, .string a0_5, .bool a0_6, .int .i64 a0_7] 26 (0, 0)) (blk_ BK125.out) hb); have n1_ := am_ (below_step (bel_ HB.out) hb); clear BK125 HB; have BK125 := n0_; have HB := n1_; clear n0_ n1_; (try clear hb); (try clear hb2); (try clear hk); (try clear hi)))
         go_ret
         exact ⟨fi_, bel_ HB.out⟩
       ·rw [if_neg c22] at H
        have c22b0 : (a0_2.toList == ([] : List UInt8)) = false := beq_eq_false_iff_ne.mpr c22
        have c22b1 : (a0_2.toList != ([] : List UInt8)) = true := bne_iff_ne.mpr c22
        obtain rfl := Option.some.inj H
        have hcz42_0 : wc.cell? ⟨gb125, 0, none⟩ = some (.int .i64 a0_0) := (blk_cell BK125.out 0).trans rfl
        have hcz42_1 : wc.cell? ⟨gb125, 1, none⟩ = some (.string a0_1) := (blk_cell BK125.out 1).trans rfl
        have hcz42_2 : wc.cell? ⟨gb125, 2, none⟩ = some (.string a0_2) := (blk_cell BK125.out 2).trans rfl
        have hcz42_3 : wc.cell? ⟨gb125, 3, none⟩ = some (.string a0_3) := (blk_cell BK125.out 3).trans rfl
        have hcz42_4 : wc.cell? ⟨gb125, 4, none⟩ = some (.int .i64 a0_4) := (blk_cell BK125.out 4).trans rfl
        have hcz42_5 : wc.cell? ⟨gb125, 5, none⟩ = some (.string a0_5) := (blk_cell BK125.out 5).trans rfl
        have hcz42_6 : wc.cell? ⟨gb125, 6, none⟩ = some (.bool a0_6) := (blk_cell BK125.out 6).trans rfl
        have hcz42_7 : wc.cell? ⟨gb125, 7, none⟩ = some (.int .i64 a0_7) := (blk_cell BK125.out 7).trans rfl
        have hfz42_0 := blk_frozen BK125.out 0
        have hfz42_1 := blk_frozen BK125.out 1
        have hfz42_2 := blk_frozen BK125.out 2
        have hfz42_3 := blk_frozen BK125.out 3
        have hfz42_4 := blk_frozen BK125.out 4
        have hfz42_5 := blk_frozen BK125.out 5
        have hfz42_6 := blk_frozen BK125.out 6
        have hfz42_7 := blk_frozen BK125.out 7
        go_wp2
        go_ret
        exact ⟨fi_, bel_ HB.out⟩
      ·rw [if_neg c21] at H
       have c21b0 : (a0_1.toList == ([] : List UInt8)) = false := beq_eq_false_iff_ne.mpr c21
       have c21b1 : (a0_1.toList != ([] : List UInt8)) = true := bne_iff_ne.mpr c21
       obtain rfl := Option.some.inj H
       have hcz43_0 : wc.cell? ⟨gb125, 0, none⟩ = some (.int .i64 a0_0) := (blk_cell BK125.out 0).trans rfl
       have hcz43_1 : wc.cell? ⟨gb125, 1, none⟩ = some (.string a0_1) := (blk_cell BK125.out 1).trans rfl
       have hcz43_2 : wc.cell? ⟨gb125, 2, none⟩ = some (.string a0_2) := (blk_cell BK125.out 2).trans rfl
       have hcz43_3 : wc.cell? ⟨gb125, 3, none⟩ = some (.string a0_3) := (blk_cell BK125.out 3).trans rfl
       have hcz43_4 : wc.cell? ⟨gb125, 4, none⟩ = some (.int .i64 a0_4) := (blk_cell BK125.out 4).trans rfl
       have hcz43_5 : wc.cell? ⟨gb125, 5, none⟩ = some (.string a0_5) := (blk_cell BK125.out 5).trans rfl
       have hcz43_6 : wc.cell? ⟨gb125, 6, none⟩ = some (.bool a0_6) := (blk_cell BK125.out 6).trans rfl
       have hcz43_7 : wc.cell? ⟨gb125, 7, none⟩ = some (.int .i64 a0_7) := (blk_cell BK125.out 7).trans rfl
       have hfz43_0 := blk_frozen BK125.out 0
       have hfz43_1 := blk_frozen BK125.out 1
       have hfz43_2 := blk_frozen BK125.out 2
       have hfz43_3 := blk_frozen BK125.out 3
       have hfz43_4 := blk_frozen BK125.out 4
       have hfz43_5 := blk_frozen BK125.out 5
       have hfz43_6 := blk_frozen BK125.out 6
       have hfz43_7 := blk_frozen BK125.out 7
       go_wp2
       go_ret
       exact ⟨fi_, bel_ HB.out⟩
     ·rw [if_neg c20] at H
      have c20b0 : (a0_0 == 4) = false := beq_eq_false_iff_ne.mpr c20
      have c20b1 : (a0_0 != 4) = true := bne_iff_ne.mpr c20
      by_cases c44 : a0_0 = 5
      ·rw [if_pos c44] at H
       have c44b0 : (a0_0 == 5) = true := beq_iff_eq.mpr c44
       have c44b1 : (a0_0 != 5) = false := bne_eq_false_iff_eq.mpr c44
       clear c44
       by_cases c45 : (a0_1.toList == ([] : List UInt8) && (a0_2.toList == ([] : List UInt8) && (a0_4 == 0 && (a0_7 == 0)))) = true
       ·rw [if_pos c45] at H
        (try (have c45k := c45; simp only [Bool.and_eq_true, beq_iff_eq, Bool.not_eq_true'] at c45k; have c45l := eq_true c45k; clear c45k)); (try (have c45m := c45; simp only [beq_nil_isEmpty] at c45m))
        have c45b0 : (a0_1.toList == ([] : List UInt8) && (a0_2.toList == ([] : List UInt8) && (a0_4 == 0 && (a0_7 == 0)))) = true := c45
        (try (have c45b1 : decide (a0_1.toList = ([] : List UInt8) && (a0_2.toList == ([] : List UInt8) && (a0_4 == 0 && (a0_7 == 0)))) = true := by simpa using c45))
        (try (have c45b2 : (a0_1.toList == ([] : List UInt8) && (a0_2.toList == ([] : List UInt8) && (a0_4 == 0 && (a0_7 == 0)))) = true := by simpa using c45))
        clear c45
        replace H := Option.bind_eq_some_iff.mp H
        obtain ⟨t130, A460, H⟩ := H
        replace H : (if t130 = true then (if a0_3.toList = ([] : List UInt8) then (some (a0_5.toList != ([] : List UInt8))) else (some true)) else (some false)) = some r := H
        have A46 := Aside0.mk A460
        clear A460
        by_cases c47 : t130 = true
        ·subst c47
         have H1 : (if a0_3.toList = ([] : List UInt8) then (some (a0_5.toList != ([] : List UInt8))) else (some true)) = some r := by rw [if_pos rfl] at H; exact H
         clear H
         have H := H1
         clear H1
         by_cases c48 : a0_3.toList = ([] : List UInt8)
         ·rw [if_pos c48] at H
          have c48b0 : (a0_3.toList == ([] : List UInt8)) = true := beq_iff_eq.mpr c48
          have c48b1 : (a0_3.toList != ([] : List UInt8)) = false := bne_eq_false_iff_eq.mpr c48
          clear c48
          obtain rfl := Option.some.inj H
          have hcz49_0 : wc.cell? ⟨gb125, 0, none⟩ = some (.int .i64 a0_0) := (blk_cell BK125.out 0).trans rfl
          have hcz49_1 : wc.cell? ⟨gb125, 1, none⟩ = some (.string a0_1) := (blk_cell BK125.out 1).trans rfl
          have hcz49_2 : wc.cell? ⟨gb125, 2, none⟩ = some (.string a0_2) := (blk_cell BK125.out 2).trans rfl
          have hcz49_3 : wc.cell? ⟨gb125, 3, none⟩ = some (.string a0_3) := (blk_cell BK125.out 3).trans rfl
          have hcz49_4 : wc.cell? ⟨gb125, 4, none⟩ = some (.int .i64 a0_4) := (blk_cell BK125.out 4).trans rfl
          have hcz49_5 : wc.cell? ⟨gb125, 5, none⟩ = some (.string a0_5) := (blk_cell BK125.out 5).trans rfl
          have hcz49_6 : wc.cell? ⟨gb125, 6, none⟩ = some (.bool a0_6) := (blk_cell BK125.out 6).trans rfl
          have hcz49_7 : wc.cell? ⟨gb125, 7, none⟩ = some (.int .i64 a0_7) := (blk_cell BK125.out 7).trans rfl
          have hfz49_0 := blk_frozen BK125.out 0
          have hfz49_1 := blk_frozen BK125.out 1
          have hfz49_2 := blk_frozen BK125.out 2
          have hfz49_3 := blk_frozen BK125.out 3
          have hfz49_4 := blk_frozen BK125.out 4
          have hfz49_5 := blk_frozen BK125.out 5
          have hfz49_6 := blk_frozen BK125.out 6
          have hfz49_7 := blk_frozen BK125.out 7
          go_wp2_with (first | (go_at_call 30; (with_reducible refine (filter_turns.calls kj1 a0_0 a0_1 a0_2 a0_3 a0_4 a0_5 a0_6 a0_7 true _ A46.out).mono ?_); rintro e w50 ⟨rfl, hb⟩; have n0_ := am_ (blk_below (g := gb125) (o := .cells #[.int .i64 a0_0, .string a0_1, .string a0_2, .string a0_3, .int .i64 a0_4, .string a0_5, .bool a0_6, .int .i64 a0_7] 26 (0, 0)) (blk_ BK125.out) hb); have n1_ := am_ (below_step (bel_ HB.out) hb); clear BK125 HB; have BK125 := n0_; have HB := n1_; clear n0_ n1_; (try clear hb); (try clear hb2); (try clear hk); (try clear hi); have hcz51_0 : w50.cell? ⟨gb125, 0, none⟩ = some (.int .i64 a0_0) := (blk_cell BK125.out 0).trans rfl; have hcz51_1 : w50.cell? ⟨gb125, 1, none⟩ = some (.string a0_1) := (blk_cell BK125.out 1).trans rfl; have hcz51_2 : w50.cell? ⟨gb125, 2, none⟩ = some (.string a0_2) := (blk_cell BK125.out 2).trans rfl; have hcz51_3 : w50.cell? ⟨gb125, 3, none⟩ = some (.string a0_3) := (blk_cell BK125.out 3).trans rfl; have hcz51_4 : w50.cell? ⟨gb125, 4, none⟩ = some (.int .i64 a0_4) := (blk_cell BK125.out 4).trans rfl; have hcz51_5 : w50.cell? ⟨gb125, 5, none⟩ = some (.string a0_5) := (blk_cell BK125.out 5).trans rfl; have hcz51_6 : w50.cell? ⟨gb125, 6, none⟩ = some (.bool a0_6) := (blk_cell BK125.out 6).trans rfl; have hcz51_7 : w50.cell? ⟨gb125, 7, none⟩ = some (.int .i64 a0_7) := (blk_cell BK125.out 7).trans rfl; have hfz51_0 := blk_frozen BK125.out 0; have hfz51_1 := blk_frozen BK125.out 1; have hfz51_2 := blk_frozen BK125.out 2; have hfz51_3 := blk_frozen BK125.out 3; have hfz51_4 := blk_frozen BK125.out 4; have hfz51_5 := blk_frozen BK125.out 5; have hfz51_6 := blk_frozen BK125.out 6; have hfz51_7 := blk_frozen BK125.out 7))
          go_ret
          exact ⟨fi_, bel_ HB.out⟩
         ·rw [if_neg c48] at H
          have c48b0 : (a0_3.toList == ([] : List UInt8)) = false := beq_eq_false_iff_ne.mpr c48
          have c48b1 : (a0_3.toList != ([] : List UInt8)) = true := bne_iff_ne.mpr c48
          obtain rfl := Option.some.inj H
          have hcz52_0 : wc.cell? ⟨gb125, 0, none⟩ = some (.int .i64 a0_0) := (blk_cell BK125.out 0).trans rfl
          have hcz52_1 : wc.cell? ⟨gb125, 1, none⟩ = some (.string a0_1) := (blk_cell BK125.out 1).trans rfl
          have hcz52_2 : wc.cell? ⟨gb125, 2, none⟩ = some (.string a0_2) := (blk_cell BK125.out 2).trans rfl
          have hcz52_3 : wc.cell? ⟨gb125, 3, none⟩ = some (.string a0_3) := (blk_cell BK125.out 3).trans rfl
          have hcz52_4 : wc.cell? ⟨gb125, 4, none⟩ = some (.int .i64 a0_4) := (blk_cell BK125.out 4).trans rfl
          have hcz52_5 : wc.cell? ⟨gb125, 5, none⟩ = some (.string a0_5) := (blk_cell BK125.out 5).trans rfl
          have hcz52_6 : wc.cell? ⟨gb125, 6, none⟩ = some (.bool a0_6) := (blk_cell BK125.out 6).trans rfl
          have hcz52_7 : wc.cell? ⟨gb125, 7, none⟩ = some (.int .i64 a0_7) := (blk_cell BK125.out 7).trans rfl
          have hfz52_0 := blk_frozen BK125.out 0
          have hfz52_1 := blk_frozen BK125.out 1
          have hfz52_2 := blk_frozen BK125.out 2
          have hfz52_3 := blk_frozen BK125.out 3
          have hfz52_4 := blk_frozen BK125.out 4
          have hfz52_5 := blk_frozen BK125.out 5
          have hfz52_6 := blk_frozen BK125.out 6
          have hfz52_7 := blk_frozen BK125.out 7
          go_wp2_with (first | (go_at_call 30; (with_reducible refine (filter_turns.calls kj1 a0_0 a0_1 a0_2 a0_3 a0_4 a0_5 a0_6 a0_7 true _ A46.out).mono ?_); rintro e w53 ⟨rfl, hb⟩; have n0_ := am_ (blk_below (g := gb125) (o := .cells #[.int .i64 a0_0, .string a0_1, .string a0_2, .string a0_3, .int .i64 a0_4, .string a0_5, .bool a0_6, .int .i64 a0_7] 26 (0, 0)) (blk_ BK125.out) hb); have n1_ := am_ (below_step (bel_ HB.out) hb); clear BK125 HB; have BK125 := n0_; have HB := n1_; clear n0_ n1_; (try clear hb); (try clear hb2); (try clear hk); (try clear hi); have hcz54_0 : w53.cell? ⟨gb125, 0, none⟩ = some (.int .i64 a0_0) := (blk_cell BK125.out 0).trans rfl; have hcz54_1 : w53.cell? ⟨gb125, 1, none⟩ = some (.string a0_1) := (blk_cell BK125.out 1).trans rfl; have hcz54_2 : w53.cell? ⟨gb125, 2, none⟩ = some (.string a0_2) := (blk_cell BK125.out 2).trans rfl; have hcz54_3 : w53.cell? ⟨gb125, 3, none⟩ = some (.string a0_3) := (blk_cell BK125.out 3).trans rfl; have hcz54_4 : w53.cell? ⟨gb125, 4, none⟩ = some (.int .i64 a0_4) := (blk_cell BK125.out 4).trans rfl; have hcz54_5 : w53.cell? ⟨gb125, 5, none⟩ = some (.string a0_5) := (blk_cell BK125.out 5).trans rfl; have hcz54_6 : w53.cell? ⟨gb125, 6, none⟩ = some (.bool a0_6) := (blk_cell BK125.out 6).trans rfl; have hcz54_7 : w53.cell? ⟨gb125, 7, none⟩ = some (.int .i64 a0_7) := (blk_cell BK125.out 7).trans rfl; have hfz54_0 := blk_frozen BK125.out 0; have hfz54_1 := blk_frozen BK125.out 1; have hfz54_2 := blk_frozen BK125.out 2; have hfz54_3 := blk_frozen BK125.out 3; have hfz54_4 := blk_frozen BK125.out 4; have hfz54_5 := blk_frozen BK125.out 5; have hfz54_6 := blk_frozen BK125.out 6; have hfz54_7 := blk_frozen BK125.out 7))
          go_ret
          exact ⟨fi_, bel_ HB.out⟩
        ·replace c47 := Bool.eq_false_iff.mpr c47
         subst c47
         have H1 : (some false) = some r := by rw [if_neg (show ¬ (false = true) by decide)] at H; exact H
         clear H
         have H := H1
         clear H1
         obtain rfl := Option.some.inj H
         have hcz55_0 : wc.cell? ⟨gb125, 0, none⟩ = some (.int .i64 a0_0) := (blk_cell BK125.out 0).trans rfl
         have hcz55_1 : wc.cell? ⟨gb125, 1, none⟩ = some (.string a0_1) := (blk_cell BK125.out 1).trans rfl
         have hcz55_2 : wc.cell? ⟨gb125, 2, none⟩ = some (.string a0_2) := (blk_cell BK125.out 2).trans rfl
         have hcz55_3 : wc.cell? ⟨gb125, 3, none⟩ = some (.string a0_3) := (blk_cell BK125.out 3).trans rfl
         have hcz55_4 : wc.cell? ⟨gb125, 4, none⟩ = some (.int .i64 a0_4) := (blk_cell BK125.out 4).trans rfl
         have hcz55_5 : wc.cell? ⟨gb125, 5, none⟩ = some (.string a0_5) := (blk_cell BK125.out 5).trans rfl
         have hcz55_6 : wc.cell? ⟨gb125, 6, none⟩ = some (.bool a0_6) := (blk_cell BK125.out 6).trans rfl
         have hcz55_7 : wc.cell? ⟨gb125, 7, none⟩ = some (.int .i64 a0_7) := (blk_cell BK125.out 7).trans rfl
         have hfz55_0 := blk_frozen BK125.out 0
         have hfz55_1 := blk_frozen BK125.out 1
         have hfz55_2 := blk_frozen BK125.out 2
         have hfz55_3 := blk_frozen BK125.out 3
         have hfz55_4 := blk_frozen BK125.out 4
         have hfz55_5 := blk_frozen BK125.out 5
         have hfz55_6 := blk_frozen BK125.out 6
         have hfz55_7 := blk_frozen BK125.out 7
         go_wp2_with (first | (go_at_call 30; (with_reducible refine (filter_turns.calls kj1 a0_0 a0_1 a0_2 a0_3 a0_4 a0_5 a0_6 a0_7 false _ A46.out).mono ?_); rintro e w56 ⟨rfl, hb⟩; have n0_ := am_ (blk_below (g := gb125) (o := .cells #[.int .i64 a0_0, .string a0_1, .string a0_2, .string a0_3, .int .i64 a0_4, .string a0_5, .bool a0_6, .int .i64 a0_7] 26 (0, 0)) (blk_ BK125.out) hb); have n1_ := am_ (below_step (bel_ HB.out) hb); clear BK125 HB; have BK125 := n0_; have HB := n1_; clear n0_ n1_; (try clear hb); (try clear hb2); (try clear hk); (try clear hi)))
         go_ret
         exact ⟨fi_, bel_ HB.out⟩
       ·rw [if_neg c45] at H
        (try (have c45k := c45; simp only [Bool.and_eq_true, beq_iff_eq, Bool.not_eq_true'] at c45k; have c45l := eq_false c45k; clear c45k)); (try (have c45m := c45; simp only [beq_nil_isEmpty] at c45m))
        have c45b0 : (a0_1.toList == ([] : List UInt8) && (a0_2.toList == ([] : List UInt8) && (a0_4 == 0 && (a0_7 == 0)))) = false := by simpa using c45
        (try (have c45b1 : decide (a0_1.toList = ([] : List UInt8) && (a0_2.toList == ([] : List UInt8) && (a0_4 == 0 && (a0_7 == 0)))) = false := by simpa using c45))
        (try (have c45b2 : (a0_1.toList == ([] : List UInt8) && (a0_2.toList == ([] : List UInt8) && (a0_4 == 0 && (a0_7 == 0)))) = false := by simpa using c45))
        (try (have c45b3 : ¬ (a0_1.toList = ([] : List UInt8) && (a0_2.toList == ([] : List UInt8) && (a0_4 == 0 && (a0_7 == 0)))) := by simpa using c45))
        clear c45
        obtain rfl := Option.some.inj H
        have hcz57_0 : wc.cell? ⟨gb125, 0, none⟩ = some (.int .i64 a0_0) := (blk_cell BK125.out 0).trans rfl
        have hcz57_1 : wc.cell? ⟨gb125, 1, none⟩ = some (.string a0_1) := (blk_cell BK125.out 1).trans rfl
        have hcz57_2 : wc.cell? ⟨gb125, 2, none⟩ = some (.string a0_2) := (blk_cell BK125.out 2).trans rfl
        have hcz57_3 : wc.cell? ⟨gb125, 3, none⟩ = some (.string a0_3) := (blk_cell BK125.out 3).trans rfl
        have hcz57_4 : wc.cell? ⟨gb125, 4, none⟩ = some (.int .i64 a0_4) := (blk_cell BK125.out 4).trans rfl
        have hcz57_5 : wc.cell? ⟨gb125, 5, none⟩ = some (.string a0_5) := (blk_cell BK125.out 5).trans rfl
        have hcz57_6 : wc.cell? ⟨gb125, 6, none⟩ = some (.bool a0_6) := (blk_cell BK125.out 6).trans rfl
        have hcz57_7 : wc.cell? ⟨gb125, 7, none⟩ = some (.int .i64 a0_7) := (blk_cell BK125.out 7).trans rfl
        have hfz57_0 := blk_frozen BK125.out 0
        have hfz57_1 := blk_frozen BK125.out 1
        have hfz57_2 := blk_frozen BK125.out 2
        have hfz57_3 := blk_frozen BK125.out 3
        have hfz57_4 := blk_frozen BK125.out 4
        have hfz57_5 := blk_frozen BK125.out 5
        have hfz57_6 := blk_frozen BK125.out 6
        have hfz57_7 := blk_frozen BK125.out 7
        go_wp2
        go_ret
        exact ⟨fi_, bel_ HB.out⟩
      ·rw [if_neg c44] at H
       have c44b0 : (a0_0 == 5) = false := beq_eq_false_iff_ne.mpr c44
       have c44b1 : (a0_0 != 5) = true := bne_iff_ne.mpr c44
       obtain rfl := Option.some.inj H
       go_wp2
       go_ret
       exact ⟨fi_, bel_ HB.out⟩

/-! ### filter_turner: function 35 -/
def filter_turner.f (a0_0 : Int) (a0_1 : ByteArray) (a0_2 : ByteArray) (a0_3 : ByteArray) (a0_4 : Int) (a0_5 : ByteArray) (a0_6 : Bool) (a0_7 : Int) : Option (Bool) := if a0_0 = 4 then (some true) else (some (a0_0 == 5))
set_option maxHeartbeats 8000000 in
set_option maxRecDepth 100000 in
theorem filter_turner.calls (a0_0 : Int) (a0_1 : ByteArray) (a0_2 : ByteArray) (a0_3 : ByteArray) (a0_4 : Int) (a0_5 : ByteArray) (a0_6 : Bool) (a0_7 : Int) (r : Bool) (w : World) (h : filter_turner.f a0_0 a0_1 a0_2 a0_3 a0_4 a0_5 a0_6 a0_7 = some r) :
  Calls Tryz.prog 35 #[.agg #[.int .i64 a0_0, .string a0_1, .string a0_2, .string a0_3, .int .i64 a0_4, .string a0_5, .bool a0_6, .int .i64 a0_7]] w fun e w' => e = .returned (.bool r) ∧ Below w.heap.size w w' := by
 have hu26 := Tryz.underlying26
 have HB := am_ (Below.refl w.heap.size w)
 have H : (if a0_0 = 4 then (some true) else (some (a0_0 == 5))) = some r := h
 clear h
 by_cases c2 : a0_0 = 4
 ·rw [if_pos c2] at H
  have c2b0 : (a0_0 == 4) = true := beq_iff_eq.mpr c2
  have c2b1 : (a0_0 != 4) = false := bne_eq_false_iff_eq.mpr c2
  clear c2
  obtain rfl := Option.some.inj H
  go_enter Tryz.func35, Tryz.ntmps35
  go_wp2_with (first | ((with_reducible refine gate_dst (N := 1) rfl ?_); refine box_event ?hg (N := 1) ?hd (cs := #[.int .i64 a0_0, .string a0_1, .string a0_2, .string a0_3, .int .i64 a0_4, .string a0_5, .bool a0_6, .int .i64 a0_7]) (t := 26) ?hr ?_; (case hd => rfl); (case hg => rfl); (case hr => first | (go_simp; done) | (go_simp; rfl)); intro gb131 hg w3 hbox hb; have n0_ := am_ (below_step (bel_ HB.out) hb); have n1_ := am_ (hbox); have n2_ := am_ ((by rw [hg]; exact (below_size (bel_ HB.out)) : w.heap.size ≤ gb131)); have n3_ := am_ ((by rw [hg]; exact (below_size (bel_ HB.out)) : w.heap.size ≤ gb131)); clear HB; have HB := n0_; have BK131 := n1_; have GW131 := n2_; have GE131 := n3_; clear n0_ n1_ n2_ n3_ hb hbox hg; have hcz4_0 : w3.cell? ⟨gb131, 0, none⟩ = some (.int .i64 a0_0) := (blk_cell BK131.out 0).trans rfl; have hcz4_1 : w3.cell? ⟨gb131, 1, none⟩ = some (.string a0_1) := (blk_cell BK131.out 1).trans rfl; have hcz4_2 : w3.cell? ⟨gb131, 2, none⟩ = some (.string a0_2) := (blk_cell BK131.out 2).trans rfl; have hcz4_3 : w3.cell? ⟨gb131, 3, none⟩ = some (.string a0_3) := (blk_cell BK131.out 3).trans rfl; have hcz4_4 : w3.cell? ⟨gb131, 4, none⟩ = some (.int .i64 a0_4) := (blk_cell BK131.out 4).trans rfl; have hcz4_5 : w3.cell? ⟨gb131, 5, none⟩ = some (.string a0_5) := (blk_cell BK131.out 5).trans rfl; have hcz4_6 : w3.cell? ⟨gb131, 6, none⟩ = some (.bool a0_6) := (blk_cell BK131.out 6).trans rfl; have hcz4_7 : w3.cell? ⟨gb131, 7, none⟩ = some (.int .i64 a0_7) := (blk_cell BK131.out 7).trans rfl; have hfz4_0 := blk_frozen BK131.out 0; have hfz4_1 := blk_frozen BK131.out 1; have hfz4_2 := blk_frozen BK131.out 2; have hfz4_3 := blk_frozen BK131.out 3; have hfz4_4 := blk_frozen BK131.out 4; have hfz4_5 := blk_frozen BK131.out 5; have hfz4_6 := blk_frozen BK131.out 6; have hfz4_7 := blk_frozen BK131.out 7))
  go_ret
  exact ⟨fi_, bel_ HB.out⟩
 ·rw [if_neg c2] at H
  have c2b0 : (a0_0 == 4) = false := beq_eq_false_iff_ne.mpr c2
  have c2b1 : (a0_0 != 4) = true := bne_iff_ne.mpr c2
  obtain rfl := Option.some.inj H
  go_enter Tryz.func35, Tryz.ntmps35
  go_wp2_with (first | ((with_reducible refine gate_dst (N := 1) rfl ?_); refine box_event ?hg (N := 1) ?hd (cs := #[.int .i64 a0_0, .string a0_1, .string a0_2, .string a0_3, .int .i64 a0_4, .string a0_5, .bool a0_6, .int .i64 a0_7]) (t := 26) ?hr ?_; (case hd => rfl); (case hg => rfl); (case hr => first | (go_simp; done) | (go_simp; rfl)); intro gb131 hg w5 hbox hb; have n0_ := am_ (below_step (bel_ HB.out) hb); have n1_ := am_ (hbox); have n2_ := am_ ((by rw [hg]; exact (below_size (bel_ HB.out)) : w.heap.size ≤ gb131)); have n3_ := am_ ((by rw [hg]; exact (below_size (bel_ HB.out)) : w.heap.size ≤ gb131)); clear HB; have HB := n0_; have BK131 := n1_; have GW131 := n2_; have GE131 := n3_; clear n0_ n1_ n2_ n3_ hb hbox hg; have hcz6_0 : w5.cell? ⟨gb131, 0, none⟩ = some (.int .i64 a0_0) := (blk_cell BK131.out 0).trans rfl; have hcz6_1 : w5.cell? ⟨gb131, 1, none⟩ = some (.string a0_1) := (blk_cell BK131.out 1).trans rfl; have hcz6_2 : w5.cell? ⟨gb131, 2, none⟩ = some (.string a0_2) := (blk_cell BK131.out 2).trans rfl; have hcz6_3 : w5.cell? ⟨gb131, 3, none⟩ = some (.string a0_3) := (blk_cell BK131.out 3).trans rfl; have hcz6_4 : w5.cell? ⟨gb131, 4, none⟩ = some (.int .i64 a0_4) := (blk_cell BK131.out 4).trans rfl; have hcz6_5 : w5.cell? ⟨gb131, 5, none⟩ = some (.string a0_5) := (blk_cell BK131.out 5).trans rfl; have hcz6_6 : w5.cell? ⟨gb131, 6, none⟩ = some (.bool a0_6) := (blk_cell BK131.out 6).trans rfl; have hcz6_7 : w5.cell? ⟨gb131, 7, none⟩ = some (.int .i64 a0_7) := (blk_cell BK131.out 7).trans rfl; have hfz6_0 := blk_frozen BK131.out 0; have hfz6_1 := blk_frozen BK131.out 1; have hfz6_2 := blk_frozen BK131.out 2; have hfz6_3 := blk_frozen BK131.out 3; have hfz6_4 := blk_frozen BK131.out 4; have hfz6_5 := blk_frozen BK131.out 5; have hfz6_6 := blk_frozen BK131.out 6; have hfz6_7 := blk_frozen BK131.out 7))
  go_ret
  exact ⟨fi_, bel_ HB.out⟩

end Go.Proofs.YtfdopmjgiakcdaaGreatDoor.Q
