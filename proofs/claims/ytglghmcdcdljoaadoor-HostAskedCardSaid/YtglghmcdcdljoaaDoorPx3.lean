-- written by wip/tool/hprint.py of this repo: the kit's print, with contracts by hand joined; Lean checks it.
import Derived.Test.YtglghmcdcdljoaaDoorPx0
import Derived.Test.YtglghmcdcdljoaaDoorPx2
namespace Go.Proofs.YtglghmcdcdljoaaDoor.P
open Go.RowKit Go.Proofs.YtglghmcdcdljoaaDoorW.PrintWords Go.Proofs.YtglghmcdcdljoaaDoorW.PrintLast Go.Proofs.YtglghmcdcdljoaaDoorW.PrintMore
attribute [local go_sem] max2_int min2_int max_two min_two max_three min_three max_four min_four   -- for this text's walks alone
set_option linter.unusedVariables false
set_option linter.unusedSimpArgs false

/-! ### tolllaw02_awake: function 6 -/
def tolllaw02_awake.f (k : Nat)  : Option (Bool) := (host_Meet.f k (⟨#[42, 46, 97, 46, 98]⟩ : ByteArray) (⟨#[42, 46, 98]⟩ : ByteArray)).bind fun bt151 => ((host_Meet.f k (⟨#[120, 46, 97, 46, 98]⟩ : ByteArray) (⟨#[42, 46, 98]⟩ : ByteArray)).bind fun bt153 => ((host_Meet.f k (⟨#[42, 46, 97]⟩ : ByteArray) (⟨#[42, 46, 98]⟩ : ByteArray)).bind fun bt155 => ((host_Of.f k (⟨#[87, 101, 98, 46, 84, 101, 115, 116, 46, 58, 56, 48, 56, 48]⟩ : ByteArray)).bind fun bt157 => (if bt151.1.toList = ([42, 46, 97, 46, 98] : List UInt8) then (if bt151.2 = true then (if bt153.1.toList = ([120, 46, 97, 46, 98] : List UInt8) then (if bt153.2 = true then (if bt155.2 = true then (none) else ((host_Holds.f k (⟨#[42, 46, 98]⟩ : ByteArray) (⟨#[98]⟩ : ByteArray)).bind fun t159 => (if t159 = true then (none) else (if bt157.1.toList = ([119, 101, 98, 46, 116, 101, 115, 116] : List UInt8) then (some (bt157.2 == 0)) else (none))))) else (none)) else (none)) else (none)) else (none)))))
theorem tolllaw02_awake.mono : ∀ k, LeO (tolllaw02_awake.f k ) (tolllaw02_awake.f (k + 1) ) := by
 intro  k
 unfold tolllaw02_awake.f
 repeat' first
   | (with_reducible exact host_Holds.mono _ _ _)
   | (with_reducible exact host_Meet.mono _ _ _)
   | (with_reducible exact host_Of.mono _ _)
   | (with_reducible exact LeO.refl _)
   | (with_reducible exact LeO.none _)
   | (with_reducible refine LeO.ite ?_ ?_)
   | (with_reducible refine LeO.bind ?_ (fun _ => ?_))
   | exact host_Holds.mono _ _ _
   | exact host_Meet.mono _ _ _
   | exact host_Of.mono _ _
   | exact LeO.none _
   | refine LeO.ite ?_ ?_
   | refine LeO.bind ?_ (fun _ => ?_)
set_option maxHeartbeats 8000000 in
set_option maxRecDepth 100000 in
theorem tolllaw02_awake.calls (k : Nat)  (r : Bool) (w : World) (h : tolllaw02_awake.f k  = some r) :
  Calls Tryd.prog 6 #[] w fun e w' => e = .returned (.bool r) ∧ Below w.heap.size w w' := by
 have HB := am_ (Below.refl w.heap.size w)
 have H : ((host_Meet.f k (⟨#[42, 46, 97, 46, 98]⟩ : ByteArray) (⟨#[42, 46, 98]⟩ : ByteArray)).bind fun bt151 => ((host_Meet.f k (⟨#[120, 46, 97, 46, 98]⟩ : ByteArray) (⟨#[42, 46, 98]⟩ : ByteArray)).bind fun bt153 => ((host_Meet.f k (⟨#[42, 46, 97]⟩ : ByteArray) (⟨#[42, 46, 98]⟩ : ByteArray)).bind fun bt155 => ((host_Of.f k (⟨#[87, 101, 98, 46, 84, 101, 115, 116, 46, 58, 56, 48, 56, 48]⟩ : ByteArray)).bind fun bt157 => (if bt151.1.toList = ([42, 46, 97, 46, 98] : List UInt8) then (if bt151.2 = true then (if bt153.1.toList = ([120, 46, 97, 46, 98] : List UInt8) then (if bt153.2 = true then (if bt155.2 = true then (none) else ((host_Holds.f k (⟨#[42, 46, 98]⟩ : ByteArray) (⟨#[98]⟩ : ByteArray)).bind fun t159 => (if t159 = true then (none) else (if bt157.1.toList = ([119, 101, 98, 46, 116, 101, 115, 116] : List UInt8) then (some (bt157.2 == 0)) else (none))))) else (none)) else (none)) else (none)) else (none)))))) = some r := h
 clear h
 replace H := Option.bind_eq_some_iff.mp H
 obtain ⟨⟨t151, t152⟩, A10, H⟩ := H
 replace H : ((host_Meet.f k (⟨#[120, 46, 97, 46, 98]⟩ : ByteArray) (⟨#[42, 46, 98]⟩ : ByteArray)).bind fun bt153 => ((host_Meet.f k (⟨#[42, 46, 97]⟩ : ByteArray) (⟨#[42, 46, 98]⟩ : ByteArray)).bind fun bt155 => ((host_Of.f k (⟨#[87, 101, 98, 46, 84, 101, 115, 116, 46, 58, 56, 48, 56, 48]⟩ : ByteArray)).bind fun bt157 => (if t151.toList = ([42, 46, 97, 46, 98] : List UInt8) then (if t152 = true then (if bt153.1.toList = ([120, 46, 97, 46, 98] : List UInt8) then (if bt153.2 = true then (if bt155.2 = true then (none) else ((host_Holds.f k (⟨#[42, 46, 98]⟩ : ByteArray) (⟨#[98]⟩ : ByteArray)).bind fun t159 => (if t159 = true then (none) else (if bt157.1.toList = ([119, 101, 98, 46, 116, 101, 115, 116] : List UInt8) then (some (bt157.2 == 0)) else (none))))) else (none)) else (none)) else (none)) else (none))))) = some r := H
 have A1 := Aside0.mk A10
 clear A10
 replace H := Option.bind_eq_some_iff.mp H
 obtain ⟨⟨t153, t154⟩, A20, H⟩ := H
 replace H : ((host_Meet.f k (⟨#[42, 46, 97]⟩ : ByteArray) (⟨#[42, 46, 98]⟩ : ByteArray)).bind fun bt155 => ((host_Of.f k (⟨#[87, 101, 98, 46, 84, 101, 115, 116, 46, 58, 56, 48, 56, 48]⟩ : ByteArray)).bind fun bt157 => (if t151.toList = ([42, 46, 97, 46, 98] : List UInt8) then (if t152 = true then (if t153.toList = ([120, 46, 97, 46, 98] : List UInt8) then (if t154 = true then (if bt155.2 = true then (none) else ((host_Holds.f k (⟨#[42, 46, 98]⟩ : ByteArray) (⟨#[98]⟩ : ByteArray)).bind fun t159 => (if t159 = true then (none) else (if bt157.1.toList = ([119, 101, 98, 46, 116, 101, 115, 116] : List UInt8) then (some (bt157.2 == 0)) else (none))))) else (none)) else (none)) else (none)) else (none)))) = some r := H
 have A2 := Aside0.mk A20
 clear A20
 replace H := Option.bind_eq_some_iff.mp H
 obtain ⟨⟨t155, t156⟩, A30, H⟩ := H
 replace H : ((host_Of.f k (⟨#[87, 101, 98, 46, 84, 101, 115, 116, 46, 58, 56, 48, 56, 48]⟩ : ByteArray)).bind fun bt157 => (if t151.toList = ([42, 46, 97, 46, 98] : List UInt8) then (if t152 = true then (if t153.toList = ([120, 46, 97, 46, 98] : List UInt8) then (if t154 = true then (if t156 = true then (none) else ((host_Holds.f k (⟨#[42, 46, 98]⟩ : ByteArray) (⟨#[98]⟩ : ByteArray)).bind fun t159 => (if t159 = true then (none) else (if bt157.1.toList = ([119, 101, 98, 46, 116, 101, 115, 116] : List UInt8) then (some (bt157.2 == 0)) else (none))))) else (none)) else (none)) else (none)) else (none))) = some r := H
 have A3 := Aside0.mk A30
 clear A30
 replace H := Option.bind_eq_some_iff.mp H
 obtain ⟨⟨t157, t158⟩, A40, H⟩ := H
 replace H : (if t151.toList = ([42, 46, 97, 46, 98] : List UInt8) then (if t152 = true then (if t153.toList = ([120, 46, 97, 46, 98] : List UInt8) then (if t154 = true then (if t156 = true then (none) else ((host_Holds.f k (⟨#[42, 46, 98]⟩ : ByteArray) (⟨#[98]⟩ : ByteArray)).bind fun t159 => (if t159 = true then (none) else (if t157.toList = ([119, 101, 98, 46, 116, 101, 115, 116] : List UInt8) then (some (t158 == 0)) else (none))))) else (none)) else (none)) else (none)) else (none)) = some r := H
 have A4 := Aside0.mk A40
 clear A40
 by_cases c5 : t151.toList = ([42, 46, 97, 46, 98] : List UInt8)
 ·rw [if_pos c5] at H
  have c5b0 : (t151.toList == ([42, 46, 97, 46, 98] : List UInt8)) = true := beq_iff_eq.mpr c5
  have c5b1 : (t151.toList != ([42, 46, 97, 46, 98] : List UInt8)) = false := bne_eq_false_iff_eq.mpr c5
  clear c5
  by_cases c6 : t152 = true
  ·subst c6
   have H1 : (if t153.toList = ([120, 46, 97, 46, 98] : List UInt8) then (if t154 = true then (if t156 = true then (none) else ((host_Holds.f k (⟨#[42, 46, 98]⟩ : ByteArray) (⟨#[98]⟩ : ByteArray)).bind fun t159 => (if t159 = true then (none) else (if t157.toList = ([119, 101, 98, 46, 116, 101, 115, 116] : List UInt8) then (some (t158 == 0)) else (none))))) else (none)) else (none)) = some r := by rw [if_pos rfl] at H; exact H
   clear H
   have H := H1
   clear H1
   by_cases c7 : t153.toList = ([120, 46, 97, 46, 98] : List UInt8)
   ·rw [if_pos c7] at H
    have c7b0 : (t153.toList == ([120, 46, 97, 46, 98] : List UInt8)) = true := beq_iff_eq.mpr c7
    have c7b1 : (t153.toList != ([120, 46, 97, 46, 98] : List UInt8)) = false := bne_eq_false_iff_eq.mpr c7
    clear c7
    by_cases c8 : t154 = true
    ·subst c8
     have H1 : (if t156 = true then (none) else ((host_Holds.f k (⟨#[42, 46, 98]⟩ : ByteArray) (⟨#[98]⟩ : ByteArray)).bind fun t159 => (if t159 = true then (none) else (if t157.toList = ([119, 101, 98, 46, 116, 101, 115, 116] : List UInt8) then (some (t158 == 0)) else (none))))) = some r := by rw [if_pos rfl] at H; exact H
     clear H
     have H := H1
     clear H1
     by_cases c9 : t156 = true
     ·subst c9
      have H1 : (none) = some r := by rw [if_pos rfl] at H; exact H
      clear H
      have H := H1
      clear H1
      exact absurd H (by simp)
     ·replace c9 := Bool.eq_false_iff.mpr c9
      subst c9
      have H1 : ((host_Holds.f k (⟨#[42, 46, 98]⟩ : ByteArray) (⟨#[98]⟩ : ByteArray)).bind fun t159 => (if t159 = true then (none) else (if t157.toList = ([119, 101, 98, 46, 116, 101, 115, 116] : List UInt8) then (some (t158 == 0)) else (none)))) = some r := by rw [if_neg (show ¬ (false = true) by decide)] at H; exact H
      clear H
      have H := H1
      clear H1
      replace H := Option.bind_eq_some_iff.mp H
      obtain ⟨t159, A100, H⟩ := H
      replace H : (if t159 = true then (none) else (if t157.toList = ([119, 101, 98, 46, 116, 101, 115, 116] : List UInt8) then (some (t158 == 0)) else (none))) = some r := H
      have A10 := Aside0.mk A100
      clear A100
      by_cases c11 : t159 = true
      ·subst c11
       have H1 : (none) = some r := by rw [if_pos rfl] at H; exact H
       clear H
       have H := H1
       clear H1
       exact absurd H (by simp)
      ·replace c11 := Bool.eq_false_iff.mpr c11
       subst c11
       have H1 : (if t157.toList = ([119, 101, 98, 46, 116, 101, 115, 116] : List UInt8) then (some (t158 == 0)) else (none)) = some r := by rw [if_neg (show ¬ (false = true) by decide)] at H; exact H
       clear H
       have H := H1
       clear H1
       by_cases c12 : t157.toList = ([119, 101, 98, 46, 116, 101, 115, 116] : List UInt8)
       ·rw [if_pos c12] at H
        have c12b0 : (t157.toList == ([119, 101, 98, 46, 116, 101, 115, 116] : List UInt8)) = true := beq_iff_eq.mpr c12
        have c12b1 : (t157.toList != ([119, 101, 98, 46, 116, 101, 115, 116] : List UInt8)) = false := bne_eq_false_iff_eq.mpr c12
        clear c12
        obtain rfl := Option.some.inj H
        go_enter Tryd.func6, Tryd.ntmps6
        go_wp2_with (first | ((with_reducible refine gate_callee (f := 10) rfl ?_); refine goesL_ (some 10) rfl rfl Tryd.func10 kr_ rfl #[.string (⟨#[42, 46, 97, 46, 98]⟩ : ByteArray), .string (⟨#[42, 46, 98]⟩ : ByteArray)] rfl rl_ ?_; (with_reducible refine (host_Meet.calls k (⟨#[42, 46, 97, 46, 98]⟩ : ByteArray) (⟨#[42, 46, 98]⟩ : ByteArray) t151 true _ A1.out).mono ?_); rintro e w13 ⟨rfl, hb⟩; refine ⟨_, rfl, ?_⟩; have n0_ := am_ (below_step (bel_ HB.out) hb); clear HB; have HB := n0_; clear n0_; (try clear hb); (try clear hb2); (try clear hk); (try clear hi)) | ((with_reducible refine gate_callee (f := 10) rfl ?_); refine goesL_ (some 14) rfl rfl Tryd.func10 kr_ rfl #[.string (⟨#[120, 46, 97, 46, 98]⟩ : ByteArray), .string (⟨#[42, 46, 98]⟩ : ByteArray)] rfl rl_ ?_; (with_reducible refine (host_Meet.calls k (⟨#[120, 46, 97, 46, 98]⟩ : ByteArray) (⟨#[42, 46, 98]⟩ : ByteArray) t153 true _ A2.out).mono ?_); rintro e w14 ⟨rfl, hb⟩; refine ⟨_, rfl, ?_⟩; have n0_ := am_ (below_step (bel_ HB.out) hb); clear HB; have HB := n0_; clear n0_; (try clear hb); (try clear hb2); (try clear hk); (try clear hi)) | ((with_reducible refine gate_callee (f := 10) rfl ?_); refine goesL_ (some 18) rfl rfl Tryd.func10 kr_ rfl #[.string (⟨#[42, 46, 97]⟩ : ByteArray), .string (⟨#[42, 46, 98]⟩ : ByteArray)] rfl rl_ ?_; (with_reducible refine (host_Meet.calls k (⟨#[42, 46, 97]⟩ : ByteArray) (⟨#[42, 46, 98]⟩ : ByteArray) t155 false _ A3.out).mono ?_); rintro e w15 ⟨rfl, hb⟩; refine ⟨_, rfl, ?_⟩; have n0_ := am_ (below_step (bel_ HB.out) hb); clear HB; have HB := n0_; clear n0_; (try clear hb); (try clear hb2); (try clear hk); (try clear hi)) | ((with_reducible refine gate_callee (f := 7) rfl ?_); refine goesL_ (some 22) rfl rfl Tryd.func7 kr_ rfl #[.string (⟨#[87, 101, 98, 46, 84, 101, 115, 116, 46, 58, 56, 48, 56, 48]⟩ : ByteArray)] rfl rl_ ?_; (with_reducible refine (host_Of.calls k (⟨#[87, 101, 98, 46, 84, 101, 115, 116, 46, 58, 56, 48, 56, 48]⟩ : ByteArray) t157 t158 _ A4.out).mono ?_); rintro e w16 ⟨rfl, hb⟩; refine ⟨_, rfl, ?_⟩; have n0_ := am_ (below_step (bel_ HB.out) hb); clear HB; have HB := n0_; clear n0_; (try clear hb); (try clear hb2); (try clear hk); (try clear hi)) | (go_at_call 11; (with_reducible refine (host_Holds.calls k (⟨#[42, 46, 98]⟩ : ByteArray) (⟨#[98]⟩ : ByteArray) false _ A10.out).mono ?_); rintro e w17 ⟨rfl, hb⟩; have n0_ := am_ (below_step (bel_ HB.out) hb); clear HB; have HB := n0_; clear n0_; (try clear hb); (try clear hb2); (try clear hk); (try clear hi)))
        go_ret
        exact ⟨fi_, bel_ HB.out⟩
       ·rw [if_neg c12] at H
        exact absurd H (by simp)
    ·replace c8 := Bool.eq_false_iff.mpr c8
     subst c8
     have H1 : (none) = some r := by rw [if_neg (show ¬ (false = true) by decide)] at H; exact H
     clear H
     have H := H1
     clear H1
     exact absurd H (by simp)
   ·rw [if_neg c7] at H
    exact absurd H (by simp)
  ·replace c6 := Bool.eq_false_iff.mpr c6
   subst c6
   have H1 : (none) = some r := by rw [if_neg (show ¬ (false = true) by decide)] at H; exact H
   clear H
   have H := H1
   clear H1
   exact absurd H (by simp)
 ·rw [if_neg c5] at H
  exact absurd H (by simp)

end Go.Proofs.YtglghmcdcdljoaaDoor.P
