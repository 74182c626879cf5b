-- written by wip/tool/hprint.py of this repo: the kit's print, with contracts by hand joined; Lean checks it.
import Derived.Test.YtjfjmniegceejaaDoorPx0
import Derived.Test.YtjfjmniegceejaaDoorPx2
import Derived.Test.YtjfjmniegceejaaDoorPx3
import Derived.Test.YtjfjmniegceejaaDoorPx4
import Derived.Test.YtjfjmniegceejaaDoorPx5
import Derived.Test.YtjfjmniegceejaaDoorPx6
import Derived.Test.YtjfjmniegceejaaDoorPx7
namespace Go.Proofs.YtjfjmniegceejaaDoor.P
open Go.RowKit Go.Proofs.YtjfjmniegceejaaDoorW.PrintWords Go.Proofs.YtjfjmniegceejaaDoorW.PrintLast Go.Proofs.YtjfjmniegceejaaDoorW.PrintMore
attribute [local go_sem] max2_int min2_int max_two min_two max_three min_three max_four min_four   -- for this text's walks alone
set_option linter.unusedVariables false
set_option linter.unusedSimpArgs false

/-! ### tolllaw02_awake: function 16 -/
def tolllaw02_awake.f (k : Nat)  : Option (Bool) := (host_Meet.f k (⟨#[42, 46, 97, 46, 98]⟩ : ByteArray) (⟨#[42, 46, 98]⟩ : ByteArray)).bind fun bt171 => ((host_Meet.f k (⟨#[120, 46, 97, 46, 98]⟩ : ByteArray) (⟨#[42, 46, 98]⟩ : ByteArray)).bind fun bt173 => ((host_Meet.f k (⟨#[42, 46, 97]⟩ : ByteArray) (⟨#[42, 46, 98]⟩ : ByteArray)).bind fun bt175 => ((host_Of.f k (⟨#[87, 101, 98, 46, 84, 101, 115, 116, 46, 58, 56, 48, 56, 48]⟩ : ByteArray)).bind fun bt177 => (if bt171.1.toList = ([42, 46, 97, 46, 98] : List UInt8) then (if bt171.2 = true then (if bt173.1.toList = ([120, 46, 97, 46, 98] : List UInt8) then (if bt173.2 = true then (if bt175.2 = true then (none) else ((host_Holds.f k (⟨#[42, 46, 98]⟩ : ByteArray) (⟨#[98]⟩ : ByteArray)).bind fun t179 => (if t179 = true then (none) else (if bt177.1.toList = ([119, 101, 98, 46, 116, 101, 115, 116] : List UInt8) then (some (bt177.2 == 0)) else (none))))) else (none)) else (none)) else (none)) else (none)))))
theorem tolllaw02_awake.mono : ∀ k, LeO (tolllaw02_awake.f k ) (tolllaw02_awake.f (k + 1) ) := by
  intro  k
  unfold tolllaw02_awake.f
  repeat' first
      | (with_reducible exact host_Holds.mono _ _ _)
      | (with_reducible exact host_Meet.mono _ _ _)
      | (with_reducible exact host_Of.mono _ _)
      | (with_reducible exact LeO.refl _)
      | (with_reducible exact LeO.none _)
      | (with_reducible refine LeO.ite ?_ ?_)
      | (with_reducible refine LeO.bind ?_ (fun _ => ?_))
      | exact host_Holds.mono _ _ _
      | exact host_Meet.mono _ _ _
      | exact host_Of.mono _ _
      | exact LeO.none _
      | refine LeO.ite ?_ ?_
      | refine LeO.bind ?_ (fun _ => ?_)
set_option maxHeartbeats 8000000 in
set_option maxRecDepth 100000 in
theorem tolllaw02_awake.calls (k : Nat)  (r : Bool) (w : World) (h : tolllaw02_awake.f k  = some r) :
    Calls Tryd.prog 16 #[] w fun e w' => e = .returned (.bool r) ∧ Below w.heap.size w w' := by
  have HB := Aside0.mk (Below.refl w.heap.size w)
  have H : ((host_Meet.f k (⟨#[42, 46, 97, 46, 98]⟩ : ByteArray) (⟨#[42, 46, 98]⟩ : ByteArray)).bind fun bt171 => ((host_Meet.f k (⟨#[120, 46, 97, 46, 98]⟩ : ByteArray) (⟨#[42, 46, 98]⟩ : ByteArray)).bind fun bt173 => ((host_Meet.f k (⟨#[42, 46, 97]⟩ : ByteArray) (⟨#[42, 46, 98]⟩ : ByteArray)).bind fun bt175 => ((host_Of.f k (⟨#[87, 101, 98, 46, 84, 101, 115, 116, 46, 58, 56, 48, 56, 48]⟩ : ByteArray)).bind fun bt177 => (if bt171.1.toList = ([42, 46, 97, 46, 98] : List UInt8) then (if bt171.2 = true then (if bt173.1.toList = ([120, 46, 97, 46, 98] : List UInt8) then (if bt173.2 = true then (if bt175.2 = true then (none) else ((host_Holds.f k (⟨#[42, 46, 98]⟩ : ByteArray) (⟨#[98]⟩ : ByteArray)).bind fun t179 => (if t179 = true then (none) else (if bt177.1.toList = ([119, 101, 98, 46, 116, 101, 115, 116] : List UInt8) then (some (bt177.2 == 0)) else (none))))) else (none)) else (none)) else (none)) else (none)))))) = some r := h
  clear h
  replace H := Option.bind_eq_some_iff.mp H
  obtain ⟨⟨t171, t172⟩, A10, H⟩ := H
  replace H : ((host_Meet.f k (⟨#[120, 46, 97, 46, 98]⟩ : ByteArray) (⟨#[42, 46, 98]⟩ : ByteArray)).bind fun bt173 => ((host_Meet.f k (⟨#[42, 46, 97]⟩ : ByteArray) (⟨#[42, 46, 98]⟩ : ByteArray)).bind fun bt175 => ((host_Of.f k (⟨#[87, 101, 98, 46, 84, 101, 115, 116, 46, 58, 56, 48, 56, 48]⟩ : ByteArray)).bind fun bt177 => (if t171.toList = ([42, 46, 97, 46, 98] : List UInt8) then (if t172 = true then (if bt173.1.toList = ([120, 46, 97, 46, 98] : List UInt8) then (if bt173.2 = true then (if bt175.2 = true then (none) else ((host_Holds.f k (⟨#[42, 46, 98]⟩ : ByteArray) (⟨#[98]⟩ : ByteArray)).bind fun t179 => (if t179 = true then (none) else (if bt177.1.toList = ([119, 101, 98, 46, 116, 101, 115, 116] : List UInt8) then (some (bt177.2 == 0)) else (none))))) else (none)) else (none)) else (none)) else (none))))) = some r := H
  have A1 := Aside0.mk A10
  clear A10
  replace H := Option.bind_eq_some_iff.mp H
  obtain ⟨⟨t173, t174⟩, A20, H⟩ := H
  replace H : ((host_Meet.f k (⟨#[42, 46, 97]⟩ : ByteArray) (⟨#[42, 46, 98]⟩ : ByteArray)).bind fun bt175 => ((host_Of.f k (⟨#[87, 101, 98, 46, 84, 101, 115, 116, 46, 58, 56, 48, 56, 48]⟩ : ByteArray)).bind fun bt177 => (if t171.toList = ([42, 46, 97, 46, 98] : List UInt8) then (if t172 = true then (if t173.toList = ([120, 46, 97, 46, 98] : List UInt8) then (if t174 = true then (if bt175.2 = true then (none) else ((host_Holds.f k (⟨#[42, 46, 98]⟩ : ByteArray) (⟨#[98]⟩ : ByteArray)).bind fun t179 => (if t179 = true then (none) else (if bt177.1.toList = ([119, 101, 98, 46, 116, 101, 115, 116] : List UInt8) then (some (bt177.2 == 0)) else (none))))) else (none)) else (none)) else (none)) else (none)))) = some r := H
  have A2 := Aside0.mk A20
  clear A20
  replace H := Option.bind_eq_some_iff.mp H
  obtain ⟨⟨t175, t176⟩, A30, H⟩ := H
  replace H : ((host_Of.f k (⟨#[87, 101, 98, 46, 84, 101, 115, 116, 46, 58, 56, 48, 56, 48]⟩ : ByteArray)).bind fun bt177 => (if t171.toList = ([42, 46, 97, 46, 98] : List UInt8) then (if t172 = true then (if t173.toList = ([120, 46, 97, 46, 98] : List UInt8) then (if t174 = true then (if t176 = true then (none) else ((host_Holds.f k (⟨#[42, 46, 98]⟩ : ByteArray) (⟨#[98]⟩ : ByteArray)).bind fun t179 => (if t179 = true then (none) else (if bt177.1.toList = ([119, 101, 98, 46, 116, 101, 115, 116] : List UInt8) then (some (bt177.2 == 0)) else (none))))) else (none)) else (none)) else (none)) else (none))) = some r := H
  have A3 := Aside0.mk A30
  clear A30
  replace H := Option.bind_eq_some_iff.mp H
  obtain ⟨⟨t177, t178⟩, A40, H⟩ := H
  replace H : (if t171.toList = ([42, 46, 97, 46, 98] : List UInt8) then (if t172 = true then (if t173.toList = ([120, 46, 97, 46, 98] : List UInt8) then (if t174 = true then (if t176 = true then (none) else ((host_Holds.f k (⟨#[42, 46, 98]⟩ : ByteArray) (⟨#[98]⟩ : ByteArray)).bind fun t179 => (if t179 = true then (none) else (if t177.toList = ([119, 101, 98, 46, 116, 101, 115, 116] : List UInt8) then (some (t178 == 0)) else (none))))) else (none)) else (none)) else (none)) else (none)) = some r := H
  have A4 := Aside0.mk A40
  clear A40
  by_cases c5 : t171.toList = ([42, 46, 97, 46, 98] : List UInt8)
  · rw [if_pos c5] at H
    have c5b0 : (t171.toList == ([42, 46, 97, 46, 98] : List UInt8)) = true := beq_iff_eq.mpr c5
    have c5b1 : (t171.toList != ([42, 46, 97, 46, 98] : List UInt8)) = false := bne_eq_false_iff_eq.mpr c5
    clear c5
    by_cases c6 : t172 = true
    · subst c6
      have H1 : (if t173.toList = ([120, 46, 97, 46, 98] : List UInt8) then (if t174 = true then (if t176 = true then (none) else ((host_Holds.f k (⟨#[42, 46, 98]⟩ : ByteArray) (⟨#[98]⟩ : ByteArray)).bind fun t179 => (if t179 = true then (none) else (if t177.toList = ([119, 101, 98, 46, 116, 101, 115, 116] : List UInt8) then (some (t178 == 0)) else (none))))) else (none)) else (none)) = some r := by rw [if_pos rfl] at H; exact H
      clear H
      have H := H1
      clear H1
      by_cases c7 : t173.toList = ([120, 46, 97, 46, 98] : List UInt8)
      · rw [if_pos c7] at H
        have c7b0 : (t173.toList == ([120, 46, 97, 46, 98] : List UInt8)) = true := beq_iff_eq.mpr c7
        have c7b1 : (t173.toList != ([120, 46, 97, 46, 98] : List UInt8)) = false := bne_eq_false_iff_eq.mpr c7
        clear c7
        by_cases c8 : t174 = true
        · subst c8
          have H1 : (if t176 = true then (none) else ((host_Holds.f k (⟨#[42, 46, 98]⟩ : ByteArray) (⟨#[98]⟩ : ByteArray)).bind fun t179 => (if t179 = true then (none) else (if t177.toList = ([119, 101, 98, 46, 116, 101, 115, 116] : List UInt8) then (some (t178 == 0)) else (none))))) = some r := by rw [if_pos rfl] at H; exact H
          clear H
          have H := H1
          clear H1
          by_cases c9 : t176 = true
          · subst c9
            have H1 : (none) = some r := by rw [if_pos rfl] at H; exact H
            clear H
            have H := H1
            clear H1
            exact absurd H (by simp)
          · replace c9 := Bool.eq_false_iff.mpr c9
            subst c9
            have H1 : ((host_Holds.f k (⟨#[42, 46, 98]⟩ : ByteArray) (⟨#[98]⟩ : ByteArray)).bind fun t179 => (if t179 = true then (none) else (if t177.toList = ([119, 101, 98, 46, 116, 101, 115, 116] : List UInt8) then (some (t178 == 0)) else (none)))) = some r := by rw [if_neg (show ¬ (false = true) by decide)] at H; exact H
            clear H
            have H := H1
            clear H1
            replace H := Option.bind_eq_some_iff.mp H
            obtain ⟨t179, A100, H⟩ := H
            replace H : (if t179 = true then (none) else (if t177.toList = ([119, 101, 98, 46, 116, 101, 115, 116] : List UInt8) then (some (t178 == 0)) else (none))) = some r := H
            have A10 := Aside0.mk A100
            clear A100
            by_cases c11 : t179 = true
            · subst c11
              have H1 : (none) = some r := by rw [if_pos rfl] at H; exact H
              clear H
              have H := H1
              clear H1
              exact absurd H (by simp)
            · replace c11 := Bool.eq_false_iff.mpr c11
              subst c11
              have H1 : (if t177.toList = ([119, 101, 98, 46, 116, 101, 115, 116] : List UInt8) then (some (t178 == 0)) else (none)) = some r := by rw [if_neg (show ¬ (false = true) by decide)] at H; exact H
              clear H
              have H := H1
              clear H1
              by_cases c12 : t177.toList = ([119, 101, 98, 46, 116, 101, 115, 116] : List UInt8)
              · rw [if_pos c12] at H
                have c12b0 : (t177.toList == ([119, 101, 98, 46, 116, 101, 115, 116] : List UInt8)) = true := beq_iff_eq.mpr c12
                have c12b1 : (t177.toList != ([119, 101, 98, 46, 116, 101, 115, 116] : List UInt8)) = false := bne_eq_false_iff_eq.mpr c12
                clear c12
                obtain rfl := Option.some.inj H
                go_enter Tryd.func16, Tryd.ntmps16
                go_wp2_with (first | ((with_reducible refine gate_callee (f := 17) rfl ?_); refine goesL_ (some 10) rfl rfl Tryd.func17 (by kernel_rfl) rfl #[.string (⟨#[42, 46, 97, 46, 98]⟩ : ByteArray), .string (⟨#[42, 46, 98]⟩ : ByteArray)] rfl (by (try simp only [List.map_toArray, List.map_cons, List.map_nil]); first | done | rfl | (simp only [List.length_drop, List.length_take]; rfl)) ?_; (with_reducible refine (host_Meet.calls k (⟨#[42, 46, 97, 46, 98]⟩ : ByteArray) (⟨#[42, 46, 98]⟩ : ByteArray) t171 true _ A1.out).mono ?_); rintro e w13 ⟨rfl, hb⟩; refine ⟨_, rfl, ?_⟩; have n0_ := Aside0.mk (below_step (by repeat (first | (with_reducible first | exact HB.out | apply below_alloc | apply pw_below_drewN | apply below_drew1) | exact HB.out)) hb); clear HB; have HB := n0_; clear n0_; (try clear hb); (try clear hb2); (try clear hk); (try clear hi)) | ((with_reducible refine gate_callee (f := 17) rfl ?_); refine goesL_ (some 14) rfl rfl Tryd.func17 (by kernel_rfl) rfl #[.string (⟨#[120, 46, 97, 46, 98]⟩ : ByteArray), .string (⟨#[42, 46, 98]⟩ : ByteArray)] rfl (by (try simp only [List.map_toArray, List.map_cons, List.map_nil]); first | done | rfl | (simp only [List.length_drop, List.length_take]; rfl)) ?_; (with_reducible refine (host_Meet.calls k (⟨#[120, 46, 97, 46, 98]⟩ : ByteArray) (⟨#[42, 46, 98]⟩ : ByteArray) t173 true _ A2.out).mono ?_); rintro e w14 ⟨rfl, hb⟩; refine ⟨_, rfl, ?_⟩; have n0_ := Aside0.mk (below_step (by repeat (first | (with_reducible first | exact HB.out | apply below_alloc | apply pw_below_drewN | apply below_drew1) | exact HB.out)) hb); clear HB; have HB := n0_; clear n0_; (try clear hb); (try clear hb2); (try clear hk); (try clear hi)) | ((with_reducible refine gate_callee (f := 17) rfl ?_); refine goesL_ (some 18) rfl rfl Tryd.func17 (by kernel_rfl) rfl #[.string (⟨#[42, 46, 97]⟩ : ByteArray), .string (⟨#[42, 46, 98]⟩ : ByteArray)] rfl (by (try simp only [List.map_toArray, List.map_cons, List.map_nil]); first | done | rfl | (simp only [List.length_drop, List.length_take]; rfl)) ?_; (with_reducible refine (host_Meet.calls k (⟨#[42, 46, 97]⟩ : ByteArray) (⟨#[42, 46, 98]⟩ : ByteArray) t175 false _ A3.out).mono ?_); rintro e w15 ⟨rfl, hb⟩; refine ⟨_, rfl, ?_⟩; have n0_ := Aside0.mk (below_step (by repeat (first | (with_reducible first | exact HB.out | apply below_alloc | apply pw_below_drewN | apply below_drew1) | exact HB.out)) hb); clear HB; have HB := n0_; clear n0_; (try clear hb); (try clear hb2); (try clear hk); (try clear hi)) | ((with_reducible refine gate_callee (f := 19) rfl ?_); refine goesL_ (some 22) rfl rfl Tryd.func19 (by kernel_rfl) rfl #[.string (⟨#[87, 101, 98, 46, 84, 101, 115, 116, 46, 58, 56, 48, 56, 48]⟩ : ByteArray)] rfl (by (try simp only [List.map_toArray, List.map_cons, List.map_nil]); first | done | rfl | (simp only [List.length_drop, List.length_take]; rfl)) ?_; (with_reducible refine (host_Of.calls k (⟨#[87, 101, 98, 46, 84, 101, 115, 116, 46, 58, 56, 48, 56, 48]⟩ : ByteArray) t177 t178 _ A4.out).mono ?_); rintro e w16 ⟨rfl, hb⟩; refine ⟨_, rfl, ?_⟩; have n0_ := Aside0.mk (below_step (by repeat (first | (with_reducible first | exact HB.out | apply below_alloc | apply pw_below_drewN | apply below_drew1) | exact HB.out)) hb); clear HB; have HB := n0_; clear n0_; (try clear hb); (try clear hb2); (try clear hk); (try clear hi)) | (go_at_call 14; (with_reducible refine (host_Holds.calls k (⟨#[42, 46, 98]⟩ : ByteArray) (⟨#[98]⟩ : ByteArray) false _ A10.out).mono ?_); rintro e w17 ⟨rfl, hb⟩; have n0_ := Aside0.mk (below_step (by repeat (first | (with_reducible first | exact HB.out | apply below_alloc | apply pw_below_drewN | apply below_drew1) | exact HB.out)) hb); clear HB; have HB := n0_; clear n0_; (try clear hb); (try clear hb2); (try clear hk); (try clear hi)))
                go_ret
                exact ⟨by first | rfl | (simp [errW_none, errW_some] <;> rfl) | (simp [*, errW_none, errW_some] <;> rfl), by repeat (first | (with_reducible first | exact HB.out | apply below_alloc | apply pw_below_drewN | apply below_drew1) | exact HB.out)⟩
              · rw [if_neg c12] at H
                exact absurd H (by simp)
        · replace c8 := Bool.eq_false_iff.mpr c8
          subst c8
          have H1 : (none) = some r := by rw [if_neg (show ¬ (false = true) by decide)] at H; exact H
          clear H
          have H := H1
          clear H1
          exact absurd H (by simp)
      · rw [if_neg c7] at H
        exact absurd H (by simp)
    · replace c6 := Bool.eq_false_iff.mpr c6
      subst c6
      have H1 : (none) = some r := by rw [if_neg (show ¬ (false = true) by decide)] at H; exact H
      clear H
      have H := H1
      clear H1
      exact absurd H (by simp)
  · rw [if_neg c5] at H
    exact absurd H (by simp)

/-! ### tolllaw02_HostHolds: function 3 -/
def tolllaw02_HostHolds.f (k : Nat) (a0 : ByteArray) (a1 : ByteArray) : Option (Bool) := (tolllaw01_Few.f a0).bind fun t180 => ((tolllaw01_Few.f a1).bind fun t181 => ((host_May.f t180).bind fun t182 => ((tollref02_May.f k t180).bind fun t183 => (if (t182 == t183) = true then ((host_Holds.f k t180 t181).bind fun t184 => ((tollref02_Holds.f k t180 t181).bind fun t185 => (if (t184 == t185) = true then ((tolllaw02_awake.f k).bind fun t186 => (some t186)) else (none)))) else (none)))))
theorem tolllaw02_HostHolds.mono : ∀ a0 a1 k, LeO (tolllaw02_HostHolds.f k a0 a1) (tolllaw02_HostHolds.f (k + 1) a0 a1) := by
  intro a0 a1 k
  unfold tolllaw02_HostHolds.f
  repeat' first
      | (with_reducible exact host_Holds.mono _ _ _)
      | (with_reducible exact tolllaw02_awake.mono _)
      | (with_reducible exact tollref02_Holds.mono _ _ _)
      | (with_reducible exact tollref02_May.mono _ _)
      | (with_reducible exact LeO.refl _)
      | (with_reducible exact LeO.none _)
      | (with_reducible refine LeO.ite ?_ ?_)
      | (with_reducible refine LeO.bind ?_ (fun _ => ?_))
      | exact host_Holds.mono _ _ _
      | exact tolllaw02_awake.mono _
      | exact tollref02_Holds.mono _ _ _
      | exact tollref02_May.mono _ _
      | exact LeO.none _
      | refine LeO.ite ?_ ?_
      | refine LeO.bind ?_ (fun _ => ?_)
set_option maxHeartbeats 8000000 in
set_option maxRecDepth 100000 in
theorem tolllaw02_HostHolds.calls (k : Nat) (a0 : ByteArray) (a1 : ByteArray) (r : Bool) (w : World) (h : tolllaw02_HostHolds.f k a0 a1 = some r) :
    Calls Tryd.prog 3 #[.string a0, .string a1] w fun e w' => e = .returned (.bool r) ∧ Below w.heap.size w w' := by
  have HB := Aside0.mk (Below.refl w.heap.size w)
  have H : ((tolllaw01_Few.f a0).bind fun t180 => ((tolllaw01_Few.f a1).bind fun t181 => ((host_May.f t180).bind fun t182 => ((tollref02_May.f k t180).bind fun t183 => (if (t182 == t183) = true then ((host_Holds.f k t180 t181).bind fun t184 => ((tollref02_Holds.f k t180 t181).bind fun t185 => (if (t184 == t185) = true then ((tolllaw02_awake.f k).bind fun t186 => (some t186)) else (none)))) else (none)))))) = some r := h
  clear h
  replace H := Option.bind_eq_some_iff.mp H
  obtain ⟨t180, A30, H⟩ := H
  replace H : ((tolllaw01_Few.f a1).bind fun t181 => ((host_May.f t180).bind fun t182 => ((tollref02_May.f k t180).bind fun t183 => (if (t182 == t183) = true then ((host_Holds.f k t180 t181).bind fun t184 => ((tollref02_Holds.f k t180 t181).bind fun t185 => (if (t184 == t185) = true then ((tolllaw02_awake.f k).bind fun t186 => (some t186)) else (none)))) else (none))))) = some r := H
  have A3 := Aside0.mk A30
  clear A30
  replace H := Option.bind_eq_some_iff.mp H
  obtain ⟨t181, A40, H⟩ := H
  replace H : ((host_May.f t180).bind fun t182 => ((tollref02_May.f k t180).bind fun t183 => (if (t182 == t183) = true then ((host_Holds.f k t180 t181).bind fun t184 => ((tollref02_Holds.f k t180 t181).bind fun t185 => (if (t184 == t185) = true then ((tolllaw02_awake.f k).bind fun t186 => (some t186)) else (none)))) else (none)))) = some r := H
  have A4 := Aside0.mk A40
  clear A40
  replace H := Option.bind_eq_some_iff.mp H
  obtain ⟨t182, A50, H⟩ := H
  replace H : ((tollref02_May.f k t180).bind fun t183 => (if (t182 == t183) = true then ((host_Holds.f k t180 t181).bind fun t184 => ((tollref02_Holds.f k t180 t181).bind fun t185 => (if (t184 == t185) = true then ((tolllaw02_awake.f k).bind fun t186 => (some t186)) else (none)))) else (none))) = some r := H
  have A5 := Aside0.mk A50
  clear A50
  replace H := Option.bind_eq_some_iff.mp H
  obtain ⟨t183, A60, H⟩ := H
  replace H : (if (t182 == t183) = true then ((host_Holds.f k t180 t181).bind fun t184 => ((tollref02_Holds.f k t180 t181).bind fun t185 => (if (t184 == t185) = true then ((tolllaw02_awake.f k).bind fun t186 => (some t186)) else (none)))) else (none)) = some r := H
  have A6 := Aside0.mk A60
  clear A60
  by_cases c7 : (t182 == t183) = true
  · rw [if_pos c7] at H
    have c7b0 : (t182 == t183) = true := c7
    (try (have c7b1 : decide (t182 = t183) = true := by simpa using c7))
    (try (have c7b2 : (t182 == t183) = true := by simpa using c7))
    clear c7
    replace H := Option.bind_eq_some_iff.mp H
    obtain ⟨t184, A80, H⟩ := H
    replace H : ((tollref02_Holds.f k t180 t181).bind fun t185 => (if (t184 == t185) = true then ((tolllaw02_awake.f k).bind fun t186 => (some t186)) else (none))) = some r := H
    have A8 := Aside0.mk A80
    clear A80
    replace H := Option.bind_eq_some_iff.mp H
    obtain ⟨t185, A90, H⟩ := H
    replace H : (if (t184 == t185) = true then ((tolllaw02_awake.f k).bind fun t186 => (some t186)) else (none)) = some r := H
    have A9 := Aside0.mk A90
    clear A90
    by_cases c10 : (t184 == t185) = true
    · rw [if_pos c10] at H
      have c10b0 : (t184 == t185) = true := c10
      (try (have c10b1 : decide (t184 = t185) = true := by simpa using c10))
      (try (have c10b2 : (t184 == t185) = true := by simpa using c10))
      clear c10
      replace H := Option.bind_eq_some_iff.mp H
      obtain ⟨t186, A110, H⟩ := H
      replace H : (some t186) = some r := H
      have A11 := Aside0.mk A110
      clear A110
      obtain rfl := Option.some.inj H
      go_enter Tryd.func3, Tryd.ntmps3
      go_wp2_with (first | ((with_reducible refine gate_callee (f := 11) rfl ?_); refine goesL_ (some 6) rfl rfl Tryd.func11 (by kernel_rfl) rfl #[.string a0] rfl (by (try simp only [List.map_toArray, List.map_cons, List.map_nil]); first | done | rfl | (simp only [List.length_drop, List.length_take]; rfl)) ?_; (with_reducible refine (tolllaw01_Few.calls a0 t180 _ A3.out).mono ?_); rintro e w' ⟨rfl, ⟨nd, rfl⟩⟩; refine ⟨_, rfl, ?_⟩) | ((with_reducible refine gate_callee (f := 11) rfl ?_); refine goesL_ (some 8) rfl rfl Tryd.func11 (by kernel_rfl) rfl #[.string a1] rfl (by (try simp only [List.map_toArray, List.map_cons, List.map_nil]); first | done | rfl | (simp only [List.length_drop, List.length_take]; rfl)) ?_; (with_reducible refine (tolllaw01_Few.calls a1 t181 _ A4.out).mono ?_); rintro e w' ⟨rfl, ⟨nd, rfl⟩⟩; refine ⟨_, rfl, ?_⟩) | ((with_reducible refine gate_callee (f := 12) rfl ?_); refine goesL_ (some 10) rfl rfl Tryd.func12 (by kernel_rfl) rfl #[.string t180] rfl (by (try simp only [List.map_toArray, List.map_cons, List.map_nil]); first | done | rfl | (simp only [List.length_drop, List.length_take]; rfl)) ?_; (with_reducible refine (host_May.calls t180 t182 _ A5.out).mono ?_); rintro e w12 ⟨rfl, hb⟩; refine ⟨_, rfl, ?_⟩; have n0_ := Aside0.mk (below_step (by repeat (first | (with_reducible first | exact HB.out | apply below_alloc | apply pw_below_drewN | apply below_drew1) | exact HB.out)) hb); clear HB; have HB := n0_; clear n0_; (try clear hb); (try clear hb2); (try clear hk); (try clear hi)) | ((with_reducible refine gate_callee (f := 13) rfl ?_); refine goesL_ (some 12) rfl rfl Tryd.func13 (by kernel_rfl) rfl #[.string t180] rfl (by (try simp only [List.map_toArray, List.map_cons, List.map_nil]); first | done | rfl | (simp only [List.length_drop, List.length_take]; rfl)) ?_; (with_reducible refine (tollref02_May.calls k t180 t183 _ A6.out).mono ?_); rintro e w13 ⟨rfl, hb⟩; refine ⟨_, rfl, ?_⟩; have n0_ := Aside0.mk (below_step (by repeat (first | (with_reducible first | exact HB.out | apply below_alloc | apply pw_below_drewN | apply below_drew1) | exact HB.out)) hb); clear HB; have HB := n0_; clear n0_; (try clear hb); (try clear hb2); (try clear hk); (try clear hi)) | (go_at_call 14; (with_reducible refine (host_Holds.calls k t180 t181 t184 _ A8.out).mono ?_); rintro e w14 ⟨rfl, hb⟩; have n0_ := Aside0.mk (below_step (by repeat (first | (with_reducible first | exact HB.out | apply below_alloc | apply pw_below_drewN | apply below_drew1) | exact HB.out)) hb); clear HB; have HB := n0_; clear n0_; (try clear hb); (try clear hb2); (try clear hk); (try clear hi)) | (go_at_call 15; (with_reducible refine (tollref02_Holds.calls k t180 t181 t185 _ A9.out).mono ?_); rintro e w15 ⟨rfl, hb⟩; have n0_ := Aside0.mk (below_step (by repeat (first | (with_reducible first | exact HB.out | apply below_alloc | apply pw_below_drewN | apply below_drew1) | exact HB.out)) hb); clear HB; have HB := n0_; clear n0_; (try clear hb); (try clear hb2); (try clear hk); (try clear hi)) | (go_at_call 16; (with_reducible refine (tolllaw02_awake.calls k  t186 _ A11.out).mono ?_); rintro e w16 ⟨rfl, hb⟩; have n0_ := Aside0.mk (below_step (by repeat (first | (with_reducible first | exact HB.out | apply below_alloc | apply pw_below_drewN | apply below_drew1) | exact HB.out)) hb); clear HB; have HB := n0_; clear n0_; (try clear hb); (try clear hb2); (try clear hk); (try clear hi)))
      go_ret
      exact ⟨by first | rfl | (simp [errW_none, errW_some] <;> rfl) | (simp [*, errW_none, errW_some] <;> rfl), by repeat (first | (with_reducible first | exact HB.out | apply below_alloc | apply pw_below_drewN | apply below_drew1) | exact HB.out)⟩
    · rw [if_neg c10] at H
      exact absurd H (by simp)
  · rw [if_neg c7] at H
    exact absurd H (by simp)

/-- THE ONE PURE STATEMENT of tolllaw02_HostHolds: yours. -/
def tolllaw02_HostHolds.Pure : Prop := ∀ (a0 : ByteArray) (a1 : ByteArray), a0.size ≤ 140737488351232 → a1.size ≤ 140737488351232 → ∃ k, tolllaw02_HostHolds.f k a0 a1 = some true
theorem tolllaw02_HostHolds.walk (P : tolllaw02_HostHolds.Pure) (a0 : ByteArray) (a1 : ByteArray) (w : World) (w0 : a0.size ≤ 140737488351232) (w1 : a1.size ≤ 140737488351232) :
    Calls Tryd.prog 3 #[.string a0, .string a1] w fun e w' => e = .returned (.bool true) ∧ Below w.heap.size w w' := by
  obtain ⟨k, h⟩ := P a0 a1 w0 w1
  refine (tolllaw02_HostHolds.calls k a0 a1 true w h).mono ?_
  rintro e w' ⟨rfl, hd⟩
  exact ⟨rfl, hd⟩

/-! ### tolllaw02_HostJust: function 4 -/
def tolllaw02_HostJust.j0 : Nat → ByteArray → ByteArray → ByteArray → Bool → Option (Bool)
  | 0, _, _, _, _ => none
  | k + 1, x0, x1, x2, x7 => (host_Meet.f k x0 x1).bind fun bt192 => (if bt192.2 = true then ((host_May.f bt192.1).bind fun t194 => (if t194 = true then ((host_Holds.f k bt192.1 x2).bind fun t195 => (if (t195 == x7) = true then ((tolllaw02_awake.f k).bind fun t196 => (some t196)) else (none))) else (none))) else (if x7 = true then (none) else (if bt192.1.toList = ([] : List UInt8) then ((tolllaw02_awake.f k).bind fun t197 => (some t197)) else (none))))
def tolllaw02_HostJust.f (k : Nat) (a0 : ByteArray) (a1 : ByteArray) (a2 : ByteArray) : Option (Bool) := (tolllaw01_Few.f a0).bind fun t187 => ((tolllaw01_Few.f a1).bind fun t188 => ((tolllaw01_Few.f a2).bind fun t189 => ((host_Holds.f k t187 t189).bind fun t190 => (if t190 = true then ((host_Holds.f k t188 t189).bind fun t191 => (tolllaw02_HostJust.j0 k t187 t188 t189 t191)) else (tolllaw02_HostJust.j0 k t187 t188 t189 false)))))
theorem tolllaw02_HostJust.mono_l : ∀ k, (∀ y0 y1 y2 y3, LeO (tolllaw02_HostJust.j0 k y0 y1 y2 y3) (tolllaw02_HostJust.j0 (k + 1) y0 y1 y2 y3))
  | 0 => fun _ _ _ _ r h => by simp [tolllaw02_HostJust.j0] at h
  | k + 1 => by
    have ih0 := tolllaw02_HostJust.mono_l k
    · intro y0 y1 y2 y3
      unfold tolllaw02_HostJust.j0
      repeat' first
      | (with_reducible exact ih0 _ _ _ _)
      | (with_reducible exact host_Holds.mono _ _ _)
      | (with_reducible exact host_Meet.mono _ _ _)
      | (with_reducible exact tolllaw02_awake.mono _)
      | (with_reducible exact LeO.refl _)
      | (with_reducible exact LeO.none _)
      | (with_reducible refine LeO.ite ?_ ?_)
      | (with_reducible refine LeO.bind ?_ (fun _ => ?_))
      | exact ih0 _ _ _ _
      | exact host_Holds.mono _ _ _
      | exact host_Meet.mono _ _ _
      | exact tolllaw02_awake.mono _
      | exact LeO.none _
      | refine LeO.ite ?_ ?_
      | refine LeO.bind ?_ (fun _ => ?_)
theorem tolllaw02_HostJust.mono : ∀ a0 a1 a2 k, LeO (tolllaw02_HostJust.f k a0 a1 a2) (tolllaw02_HostJust.f (k + 1) a0 a1 a2) := by
  intro a0 a1 a2 k
  have ih0 := tolllaw02_HostJust.mono_l k
  unfold tolllaw02_HostJust.f
  repeat' first
      | (with_reducible exact ih0 _ _ _ _)
      | (with_reducible exact host_Holds.mono _ _ _)
      | (with_reducible exact host_Meet.mono _ _ _)
      | (with_reducible exact tolllaw02_awake.mono _)
      | (with_reducible exact LeO.refl _)
      | (with_reducible exact LeO.none _)
      | (with_reducible refine LeO.ite ?_ ?_)
      | (with_reducible refine LeO.bind ?_ (fun _ => ?_))
      | exact ih0 _ _ _ _
      | exact host_Holds.mono _ _ _
      | exact host_Meet.mono _ _ _
      | exact tolllaw02_awake.mono _
      | exact LeO.none _
      | refine LeO.ite ?_ ?_
      | refine LeO.bind ?_ (fun _ => ?_)
set_option maxHeartbeats 8000000 in
set_option maxRecDepth 100000 in
theorem tolllaw02_HostJust.calls (k : Nat) (a0 : ByteArray) (a1 : ByteArray) (a2 : ByteArray) (r : Bool) (w : World) (h : tolllaw02_HostJust.f k a0 a1 a2 = some r) :
    Calls Tryd.prog 4 #[.string a0, .string a1, .string a2] w fun e w' => e = .returned (.bool r) ∧ Below w.heap.size w w' := by
  have HB := Aside0.mk (Below.refl w.heap.size w)
  have H : ((tolllaw01_Few.f a0).bind fun t187 => ((tolllaw01_Few.f a1).bind fun t188 => ((tolllaw01_Few.f a2).bind fun t189 => ((host_Holds.f k t187 t189).bind fun t190 => (if t190 = true then ((host_Holds.f k t188 t189).bind fun t191 => (tolllaw02_HostJust.j0 k t187 t188 t189 t191)) else (tolllaw02_HostJust.j0 k t187 t188 t189 false)))))) = some r := h
  clear h
  replace H := Option.bind_eq_some_iff.mp H
  obtain ⟨t187, A40, H⟩ := H
  replace H : ((tolllaw01_Few.f a1).bind fun t188 => ((tolllaw01_Few.f a2).bind fun t189 => ((host_Holds.f k t187 t189).bind fun t190 => (if t190 = true then ((host_Holds.f k t188 t189).bind fun t191 => (tolllaw02_HostJust.j0 k t187 t188 t189 t191)) else (tolllaw02_HostJust.j0 k t187 t188 t189 false))))) = some r := H
  have A4 := Aside0.mk A40
  clear A40
  replace H := Option.bind_eq_some_iff.mp H
  obtain ⟨t188, A50, H⟩ := H
  replace H : ((tolllaw01_Few.f a2).bind fun t189 => ((host_Holds.f k t187 t189).bind fun t190 => (if t190 = true then ((host_Holds.f k t188 t189).bind fun t191 => (tolllaw02_HostJust.j0 k t187 t188 t189 t191)) else (tolllaw02_HostJust.j0 k t187 t188 t189 false)))) = some r := H
  have A5 := Aside0.mk A50
  clear A50
  replace H := Option.bind_eq_some_iff.mp H
  obtain ⟨t189, A60, H⟩ := H
  replace H : ((host_Holds.f k t187 t189).bind fun t190 => (if t190 = true then ((host_Holds.f k t188 t189).bind fun t191 => (tolllaw02_HostJust.j0 k t187 t188 t189 t191)) else (tolllaw02_HostJust.j0 k t187 t188 t189 false))) = some r := H
  have A6 := Aside0.mk A60
  clear A60
  have HC7 := Aside0.mk H
  clear H
  go_enter Tryd.func4, Tryd.ntmps4
  go_upto_region 2 with (first | ((with_reducible refine gate_callee (f := 11) rfl ?_); refine goesL_ (some 11) rfl rfl Tryd.func11 (by kernel_rfl) rfl #[.string a0] rfl (by (try simp only [List.map_toArray, List.map_cons, List.map_nil]); first | done | rfl | (simp only [List.length_drop, List.length_take]; rfl)) ?_; (with_reducible refine (tolllaw01_Few.calls a0 t187 _ A4.out).mono ?_); rintro e w' ⟨rfl, ⟨nd, rfl⟩⟩; refine ⟨_, rfl, ?_⟩) | ((with_reducible refine gate_callee (f := 11) rfl ?_); refine goesL_ (some 13) rfl rfl Tryd.func11 (by kernel_rfl) rfl #[.string a1] rfl (by (try simp only [List.map_toArray, List.map_cons, List.map_nil]); first | done | rfl | (simp only [List.length_drop, List.length_take]; rfl)) ?_; (with_reducible refine (tolllaw01_Few.calls a1 t188 _ A5.out).mono ?_); rintro e w' ⟨rfl, ⟨nd, rfl⟩⟩; refine ⟨_, rfl, ?_⟩) | ((with_reducible refine gate_callee (f := 11) rfl ?_); refine goesL_ (some 15) rfl rfl Tryd.func11 (by kernel_rfl) rfl #[.string a2] rfl (by (try simp only [List.map_toArray, List.map_cons, List.map_nil]); first | done | rfl | (simp only [List.length_drop, List.length_take]; rfl)) ?_; (with_reducible refine (tolllaw01_Few.calls a2 t189 _ A6.out).mono ?_); rintro e w' ⟨rfl, ⟨nd, rfl⟩⟩; refine ⟨_, rfl, ?_⟩))
  (try simp only [Act.put, List.setIfInBounds_toArray, List.set_cons_zero, List.set_cons_succ])
  go_cut [7] (fun v7 wc => ∃ (kq : Nat) (x7_6 : Bool), v7 = .bool x7_6 ∧ Aside0 (tolllaw02_HostJust.j0 kq t187 t188 t189 x7_6 = some r) ∧ Aside0 (kq ≤ k) ∧ Aside0 (Below w.heap.size w wc))
  case first =>
    have H := HC7.out
    clear HC7
    replace H := Option.bind_eq_some_iff.mp H
    obtain ⟨t190, A80, H⟩ := H
    replace H : (if t190 = true then ((host_Holds.f k t188 t189).bind fun t191 => (tolllaw02_HostJust.j0 k t187 t188 t189 t191)) else (tolllaw02_HostJust.j0 k t187 t188 t189 false)) = some r := H
    have A8 := Aside0.mk A80
    clear A80
    by_cases c9 : t190 = true
    · subst c9
      have H1 : ((host_Holds.f k t188 t189).bind fun t191 => (tolllaw02_HostJust.j0 k t187 t188 t189 t191)) = some r := by rw [if_pos rfl] at H; exact H
      clear H
      have H := H1
      clear H1
      replace H := Option.bind_eq_some_iff.mp H
      obtain ⟨t191, A100, H⟩ := H
      replace H : (tolllaw02_HostJust.j0 k t187 t188 t189 t191) = some r := H
      have A10 := Aside0.mk A100
      clear A100
      have H' := Aside0.mk H
      clear H
      go_wp2_with (first | ((with_reducible refine gate_callee (f := 14) rfl ?_); refine goesL_ (some 18) rfl rfl Tryd.func14 (by kernel_rfl) rfl #[.string t187, .string t189] rfl (by (try simp only [List.map_toArray, List.map_cons, List.map_nil]); first | done | rfl | (simp only [List.length_drop, List.length_take]; rfl)) ?_; (with_reducible refine (host_Holds.calls k t187 t189 true _ A8.out).mono ?_); rintro e w11 ⟨rfl, hb⟩; refine ⟨_, rfl, ?_⟩; have n0_ := Aside0.mk (below_step (by repeat (first | (with_reducible first | exact HB.out | apply below_alloc | apply pw_below_drewN | apply below_drew1) | exact HB.out)) hb); clear HB; have HB := n0_; clear n0_; (try clear hb); (try clear hb2); (try clear hk); (try clear hi)) | (go_at_call 14; (with_reducible refine (host_Holds.calls k t188 t189 t191 _ A10.out).mono ?_); rintro e w12 ⟨rfl, hb⟩; have n0_ := Aside0.mk (below_step (by repeat (first | (with_reducible first | exact HB.out | apply below_alloc | apply pw_below_drewN | apply below_drew1) | exact HB.out)) hb); clear HB; have HB := n0_; clear n0_; (try clear hb); (try clear hb2); (try clear hk); (try clear hi)))
      go_meet
      case rel => exact ⟨_, (t191), (by first | rfl | (simp; done) | (simp [*]; done) | (simp [bne_nil_isEmpty, beq_nil_isEmpty]; done) | (simp [*, bne_nil_isEmpty, beq_nil_isEmpty]; done)), H', ⟨by first | omega | exact Nat.le_refl _⟩, ⟨by repeat (first | (with_reducible first | exact HB.out | apply below_alloc | apply pw_below_drewN | apply below_drew1) | exact HB.out)⟩⟩
    · replace c9 := Bool.eq_false_iff.mpr c9
      subst c9
      have H1 : (tolllaw02_HostJust.j0 k t187 t188 t189 false) = some r := by rw [if_neg (show ¬ (false = true) by decide)] at H; exact H
      clear H
      have H := H1
      clear H1
      have H' := Aside0.mk H
      clear H
      go_wp2_with (first | ((with_reducible refine gate_callee (f := 14) rfl ?_); refine goesL_ (some 18) rfl rfl Tryd.func14 (by kernel_rfl) rfl #[.string t187, .string t189] rfl (by (try simp only [List.map_toArray, List.map_cons, List.map_nil]); first | done | rfl | (simp only [List.length_drop, List.length_take]; rfl)) ?_; (with_reducible refine (host_Holds.calls k t187 t189 false _ A8.out).mono ?_); rintro e w13 ⟨rfl, hb⟩; refine ⟨_, rfl, ?_⟩; have n0_ := Aside0.mk (below_step (by repeat (first | (with_reducible first | exact HB.out | apply below_alloc | apply pw_below_drewN | apply below_drew1) | exact HB.out)) hb); clear HB; have HB := n0_; clear n0_; (try clear hb); (try clear hb2); (try clear hk); (try clear hi)))
      go_meet
      case rel => exact ⟨_, (false), (by first | rfl | (simp; done) | (simp [*]; done) | (simp [bne_nil_isEmpty, beq_nil_isEmpty]; done) | (simp [*, bne_nil_isEmpty, beq_nil_isEmpty]; done)), H', ⟨by first | omega | exact Nat.le_refl _⟩, ⟨by repeat (first | (with_reducible first | exact HB.out | apply below_alloc | apply pw_below_drewN | apply below_drew1) | exact HB.out)⟩⟩
  case rest =>
    clear HC7
    try clear c1
    try clear p2
    try clear c4
    try clear c9
    try clear c11
    obtain ⟨kq, x7_6, rfl, HA, HJ6, HB⟩ := hcut
    cases kq with
    | zero => exact absurd HA.out (by simp [tolllaw02_HostJust.j0])
    | succ kj6 =>
      have H := HA.out
      clear HA
      simp only [tolllaw02_HostJust.j0] at H
      replace H := Option.bind_eq_some_iff.mp H
      obtain ⟨⟨t192, t193⟩, A140, H⟩ := H
      replace H : (if t193 = true then ((host_May.f t192).bind fun t194 => (if t194 = true then ((host_Holds.f kj6 t192 t189).bind fun t195 => (if (t195 == x7_6) = true then ((tolllaw02_awake.f kj6).bind fun t196 => (some t196)) else (none))) else (none))) else (if x7_6 = true then (none) else (if t192.toList = ([] : List UInt8) then ((tolllaw02_awake.f kj6).bind fun t197 => (some t197)) else (none)))) = some r := H
      have A14 := Aside0.mk A140
      clear A140
      by_cases c15 : t193 = true
      · subst c15
        have H1 : ((host_May.f t192).bind fun t194 => (if t194 = true then ((host_Holds.f kj6 t192 t189).bind fun t195 => (if (t195 == x7_6) = true then ((tolllaw02_awake.f kj6).bind fun t196 => (some t196)) else (none))) else (none))) = some r := by rw [if_pos rfl] at H; exact H
        clear H
        have H := H1
        clear H1
        replace H := Option.bind_eq_some_iff.mp H
        obtain ⟨t194, A160, H⟩ := H
        replace H : (if t194 = true then ((host_Holds.f kj6 t192 t189).bind fun t195 => (if (t195 == x7_6) = true then ((tolllaw02_awake.f kj6).bind fun t196 => (some t196)) else (none))) else (none)) = some r := H
        have A16 := Aside0.mk A160
        clear A160
        by_cases c17 : t194 = true
        · subst c17
          have H1 : ((host_Holds.f kj6 t192 t189).bind fun t195 => (if (t195 == x7_6) = true then ((tolllaw02_awake.f kj6).bind fun t196 => (some t196)) else (none))) = some r := by rw [if_pos rfl] at H; exact H
          clear H
          have H := H1
          clear H1
          replace H := Option.bind_eq_some_iff.mp H
          obtain ⟨t195, A180, H⟩ := H
          replace H : (if (t195 == x7_6) = true then ((tolllaw02_awake.f kj6).bind fun t196 => (some t196)) else (none)) = some r := H
          have A18 := Aside0.mk A180
          clear A180
          by_cases c19 : (t195 == x7_6) = true
          · rw [if_pos c19] at H
            have c19b0 : (t195 == x7_6) = true := c19
            (try (have c19b1 : decide (t195 = x7_6) = true := by simpa using c19))
            (try (have c19b2 : (t195 == x7_6) = true := by simpa using c19))
            clear c19
            replace H := Option.bind_eq_some_iff.mp H
            obtain ⟨t196, A200, H⟩ := H
            replace H : (some t196) = some r := H
            have A20 := Aside0.mk A200
            clear A200
            obtain rfl := Option.some.inj H
            go_wp2_with (first | ((with_reducible refine gate_callee (f := 17) rfl ?_); refine goesL_ (some 27) rfl rfl Tryd.func17 (by kernel_rfl) rfl #[.string t187, .string t188] rfl (by (try simp only [List.map_toArray, List.map_cons, List.map_nil]); first | done | rfl | (simp only [List.length_drop, List.length_take]; rfl)) ?_; (with_reducible refine (host_Meet.calls kj6 t187 t188 t192 true _ A14.out).mono ?_); rintro e w21 ⟨rfl, hb⟩; refine ⟨_, rfl, ?_⟩; have n0_ := Aside0.mk (below_step (by repeat (first | (with_reducible first | exact HB.out | apply below_alloc | apply pw_below_drewN | apply below_drew1) | exact HB.out)) hb); clear HB; have HB := n0_; clear n0_; (try clear hb); (try clear hb2); (try clear hk); (try clear hi)) | ((with_reducible refine gate_callee (f := 12) rfl ?_); refine goesL_ (some 42) rfl rfl Tryd.func12 (by kernel_rfl) rfl #[.string t192] rfl (by (try simp only [List.map_toArray, List.map_cons, List.map_nil]); first | done | rfl | (simp only [List.length_drop, List.length_take]; rfl)) ?_; (with_reducible refine (host_May.calls t192 true _ A16.out).mono ?_); rintro e w22 ⟨rfl, hb⟩; refine ⟨_, rfl, ?_⟩; have n0_ := Aside0.mk (below_step (by repeat (first | (with_reducible first | exact HB.out | apply below_alloc | apply pw_below_drewN | apply below_drew1) | exact HB.out)) hb); clear HB; have HB := n0_; clear n0_; (try clear hb); (try clear hb2); (try clear hk); (try clear hi)) | (go_at_call 14; (with_reducible refine (host_Holds.calls kj6 t192 t189 t195 _ A18.out).mono ?_); rintro e w23 ⟨rfl, hb⟩; have n0_ := Aside0.mk (below_step (by repeat (first | (with_reducible first | exact HB.out | apply below_alloc | apply pw_below_drewN | apply below_drew1) | exact HB.out)) hb); clear HB; have HB := n0_; clear n0_; (try clear hb); (try clear hb2); (try clear hk); (try clear hi)) | (go_at_call 16; (with_reducible refine (tolllaw02_awake.calls kj6  t196 _ A20.out).mono ?_); rintro e w24 ⟨rfl, hb⟩; have n0_ := Aside0.mk (below_step (by repeat (first | (with_reducible first | exact HB.out | apply below_alloc | apply pw_below_drewN | apply below_drew1) | exact HB.out)) hb); clear HB; have HB := n0_; clear n0_; (try clear hb); (try clear hb2); (try clear hk); (try clear hi)))
            go_ret
            exact ⟨by first | rfl | (simp [errW_none, errW_some] <;> rfl) | (simp [*, errW_none, errW_some] <;> rfl), by repeat (first | (with_reducible first | exact HB.out | apply below_alloc | apply pw_below_drewN | apply below_drew1) | exact HB.out)⟩
          · rw [if_neg c19] at H
            exact absurd H (by simp)
        · replace c17 := Bool.eq_false_iff.mpr c17
          subst c17
          have H1 : (none) = some r := by rw [if_neg (show ¬ (false = true) by decide)] at H; exact H
          clear H
          have H := H1
          clear H1
          exact absurd H (by simp)
      · replace c15 := Bool.eq_false_iff.mpr c15
        subst c15
        have H1 : (if x7_6 = true then (none) else (if t192.toList = ([] : List UInt8) then ((tolllaw02_awake.f kj6).bind fun t197 => (some t197)) else (none))) = some r := by rw [if_neg (show ¬ (false = true) by decide)] at H; exact H
        clear H
        have H := H1
        clear H1
        by_cases c25 : x7_6 = true
        · subst c25
          have H1 : (none) = some r := by rw [if_pos rfl] at H; exact H
          clear H
          have H := H1
          clear H1
          exact absurd H (by simp)
        · replace c25 := Bool.eq_false_iff.mpr c25
          subst c25
          have H1 : (if t192.toList = ([] : List UInt8) then ((tolllaw02_awake.f kj6).bind fun t197 => (some t197)) else (none)) = some r := by rw [if_neg (show ¬ (false = true) by decide)] at H; exact H
          clear H
          have H := H1
          clear H1
          by_cases c26 : t192.toList = ([] : List UInt8)
          · rw [if_pos c26] at H
            have c26b0 : (t192.toList == ([] : List UInt8)) = true := beq_iff_eq.mpr c26
            have c26b1 : (t192.toList != ([] : List UInt8)) = false := bne_eq_false_iff_eq.mpr c26
            clear c26
            replace H := Option.bind_eq_some_iff.mp H
            obtain ⟨t197, A270, H⟩ := H
            replace H : (some t197) = some r := H
            have A27 := Aside0.mk A270
            clear A270
            obtain rfl := Option.some.inj H
            go_wp2_with (first | ((with_reducible refine gate_callee (f := 17) rfl ?_); refine goesL_ (some 27) rfl rfl Tryd.func17 (by kernel_rfl) rfl #[.string t187, .string t188] rfl (by (try simp only [List.map_toArray, List.map_cons, List.map_nil]); first | done | rfl | (simp only [List.length_drop, List.length_take]; rfl)) ?_; (with_reducible refine (host_Meet.calls kj6 t187 t188 t192 false _ A14.out).mono ?_); rintro e w28 ⟨rfl, hb⟩; refine ⟨_, rfl, ?_⟩; have n0_ := Aside0.mk (below_step (by repeat (first | (with_reducible first | exact HB.out | apply below_alloc | apply pw_below_drewN | apply below_drew1) | exact HB.out)) hb); clear HB; have HB := n0_; clear n0_; (try clear hb); (try clear hb2); (try clear hk); (try clear hi)) | (go_at_call 16; (with_reducible refine (tolllaw02_awake.calls kj6  t197 _ A27.out).mono ?_); rintro e w29 ⟨rfl, hb⟩; have n0_ := Aside0.mk (below_step (by repeat (first | (with_reducible first | exact HB.out | apply below_alloc | apply pw_below_drewN | apply below_drew1) | exact HB.out)) hb); clear HB; have HB := n0_; clear n0_; (try clear hb); (try clear hb2); (try clear hk); (try clear hi)))
            go_ret
            exact ⟨by first | rfl | (simp [errW_none, errW_some] <;> rfl) | (simp [*, errW_none, errW_some] <;> rfl), by repeat (first | (with_reducible first | exact HB.out | apply below_alloc | apply pw_below_drewN | apply below_drew1) | exact HB.out)⟩
          · rw [if_neg c26] at H
            exact absurd H (by simp)

/-- THE ONE PURE STATEMENT of tolllaw02_HostJust: yours. -/
def tolllaw02_HostJust.Pure : Prop := ∀ (a0 : ByteArray) (a1 : ByteArray) (a2 : ByteArray), a0.size ≤ 140737488351232 → a1.size ≤ 140737488351232 → a2.size ≤ 140737488351232 → ∃ k, tolllaw02_HostJust.f k a0 a1 a2 = some true
theorem tolllaw02_HostJust.walk (P : tolllaw02_HostJust.Pure) (a0 : ByteArray) (a1 : ByteArray) (a2 : ByteArray) (w : World) (w0 : a0.size ≤ 140737488351232) (w1 : a1.size ≤ 140737488351232) (w2 : a2.size ≤ 140737488351232) :
    Calls Tryd.prog 4 #[.string a0, .string a1, .string a2] w fun e w' => e = .returned (.bool true) ∧ Below w.heap.size w w' := by
  obtain ⟨k, h⟩ := P a0 a1 a2 w0 w1 w2
  refine (tolllaw02_HostJust.calls k a0 a1 a2 true w h).mono ?_
  rintro e w' ⟨rfl, hd⟩
  exact ⟨rfl, hd⟩

/-! ### tolllaw02_HostTurns: function 5 -/
mutual
def tolllaw02_HostTurns.j0 : Nat → ByteArray → ByteArray → ByteArray → ByteArray → Bool → Bool → Option (Bool)
  | 0, _, _, _, _, _, _ => none
  | k + 1, x0, x1, x2, x7, x8, x44 => if x44 = true then (none) else ((host_Meet.f k x7 x2).bind fun bt205 => ((host_Meet.f k x1 x2).bind fun bt207 => ((host_Meet.f k x0 bt207.1).bind fun bt209 => (if x8 = true then (if bt207.2 = true then (if (bt205.2 != bt209.2) = true then (none) else (if bt205.2 = true then (tolllaw02_HostTurns.j1 k x0 (bt205.1.toList != bt209.1.toList)) else (tolllaw02_HostTurns.j1 k x0 false))) else (if (bt205.2 != false) = true then (none) else (if bt205.2 = true then (tolllaw02_HostTurns.j1 k x0 (bt205.1.toList != bt209.1.toList)) else (tolllaw02_HostTurns.j1 k x0 false)))) else (if bt207.2 = true then (if (false != bt209.2) = true then (none) else (tolllaw02_HostTurns.j1 k x0 false)) else (if (false != false) = true then (none) else (tolllaw02_HostTurns.j1 k x0 false)))))))
def tolllaw02_HostTurns.j1 : Nat → ByteArray → Bool → Option (Bool)
  | 0, _, _ => none
  | k + 1, x0, x82 => if x82 = true then (none) else ((host_Meet.f k x0 x0).bind fun bt211 => ((host_May.f x0).bind fun t213 => (if (bt211.2 == t213) = true then (if bt211.2 = true then (if bt211.1.toList = x0.toList then ((tolllaw02_awake.f k).bind fun t214 => (some t214)) else (none)) else ((tolllaw02_awake.f k).bind fun t215 => (some t215))) else (none))))
end
def tolllaw02_HostTurns.f (k : Nat) (a0 : ByteArray) (a1 : ByteArray) (a2 : ByteArray) : Option (Bool) := (tolllaw01_Few.f a0).bind fun t198 => ((tolllaw01_Few.f a1).bind fun t199 => ((tolllaw01_Few.f a2).bind fun t200 => ((host_Meet.f k t198 t199).bind fun bt201 => ((host_Meet.f k t199 t198).bind fun bt203 => (if bt201.1.toList = bt203.1.toList then (tolllaw02_HostTurns.j0 k t198 t199 t200 bt201.1 bt201.2 (bt201.2 != bt203.2)) else (none))))))
theorem tolllaw02_HostTurns.mono_l : ∀ k, (∀ y0 y1 y2 y3 y4 y5, LeO (tolllaw02_HostTurns.j0 k y0 y1 y2 y3 y4 y5) (tolllaw02_HostTurns.j0 (k + 1) y0 y1 y2 y3 y4 y5)) ∧ (∀ y0 y1, LeO (tolllaw02_HostTurns.j1 k y0 y1) (tolllaw02_HostTurns.j1 (k + 1) y0 y1))
  | 0 => ⟨fun _ _ _ _ _ _ r h => by simp [tolllaw02_HostTurns.j0] at h, fun _ _ r h => by simp [tolllaw02_HostTurns.j1] at h⟩
  | k + 1 => by
    obtain ⟨ih0, ih1⟩ := tolllaw02_HostTurns.mono_l k
    refine ⟨?_, ?_⟩
    · intro y0 y1 y2 y3 y4 y5
      unfold tolllaw02_HostTurns.j0
      repeat' first
      | (with_reducible exact ih0 _ _ _ _ _ _)
      | (with_reducible exact ih1 _ _)
      | (with_reducible exact host_Meet.mono _ _ _)
      | (with_reducible exact tolllaw02_awake.mono _)
      | (with_reducible exact LeO.refl _)
      | (with_reducible exact LeO.none _)
      | (with_reducible refine LeO.ite ?_ ?_)
      | (with_reducible refine LeO.bind ?_ (fun _ => ?_))
      | exact ih0 _ _ _ _ _ _
      | exact ih1 _ _
      | exact host_Meet.mono _ _ _
      | exact tolllaw02_awake.mono _
      | exact LeO.none _
      | refine LeO.ite ?_ ?_
      | refine LeO.bind ?_ (fun _ => ?_)
    · intro y0 y1
      unfold tolllaw02_HostTurns.j1
      repeat' first
      | (with_reducible exact ih0 _ _ _ _ _ _)
      | (with_reducible exact ih1 _ _)
      | (with_reducible exact host_Meet.mono _ _ _)
      | (with_reducible exact tolllaw02_awake.mono _)
      | (with_reducible exact LeO.refl _)
      | (with_reducible exact LeO.none _)
      | (with_reducible refine LeO.ite ?_ ?_)
      | (with_reducible refine LeO.bind ?_ (fun _ => ?_))
      | exact ih0 _ _ _ _ _ _
      | exact ih1 _ _
      | exact host_Meet.mono _ _ _
      | exact tolllaw02_awake.mono _
      | exact LeO.none _
      | refine LeO.ite ?_ ?_
      | refine LeO.bind ?_ (fun _ => ?_)
theorem tolllaw02_HostTurns.mono : ∀ a0 a1 a2 k, LeO (tolllaw02_HostTurns.f k a0 a1 a2) (tolllaw02_HostTurns.f (k + 1) a0 a1 a2) := by
  intro a0 a1 a2 k
  obtain ⟨ih0, ih1⟩ := tolllaw02_HostTurns.mono_l k
  unfold tolllaw02_HostTurns.f
  repeat' first
      | (with_reducible exact ih0 _ _ _ _ _ _)
      | (with_reducible exact ih1 _ _)
      | (with_reducible exact host_Meet.mono _ _ _)
      | (with_reducible exact tolllaw02_awake.mono _)
      | (with_reducible exact LeO.refl _)
      | (with_reducible exact LeO.none _)
      | (with_reducible refine LeO.ite ?_ ?_)
      | (with_reducible refine LeO.bind ?_ (fun _ => ?_))
      | exact ih0 _ _ _ _ _ _
      | exact ih1 _ _
      | exact host_Meet.mono _ _ _
      | exact tolllaw02_awake.mono _
      | exact LeO.none _
      | refine LeO.ite ?_ ?_
      | refine LeO.bind ?_ (fun _ => ?_)
set_option maxHeartbeats 8000000 in
set_option maxRecDepth 100000 in
theorem tolllaw02_HostTurns.calls (k : Nat) (a0 : ByteArray) (a1 : ByteArray) (a2 : ByteArray) (r : Bool) (w : World) (h : tolllaw02_HostTurns.f k a0 a1 a2 = some r) :
    Calls Tryd.prog 5 #[.string a0, .string a1, .string a2] w fun e w' => e = .returned (.bool r) ∧ Below w.heap.size w w' := by
  have HB := Aside0.mk (Below.refl w.heap.size w)
  have H : ((tolllaw01_Few.f a0).bind fun t198 => ((tolllaw01_Few.f a1).bind fun t199 => ((tolllaw01_Few.f a2).bind fun t200 => ((host_Meet.f k t198 t199).bind fun bt201 => ((host_Meet.f k t199 t198).bind fun bt203 => (if bt201.1.toList = bt203.1.toList then (tolllaw02_HostTurns.j0 k t198 t199 t200 bt201.1 bt201.2 (bt201.2 != bt203.2)) else (none))))))) = some r := h
  clear h
  replace H := Option.bind_eq_some_iff.mp H
  obtain ⟨t198, A40, H⟩ := H
  replace H : ((tolllaw01_Few.f a1).bind fun t199 => ((tolllaw01_Few.f a2).bind fun t200 => ((host_Meet.f k t198 t199).bind fun bt201 => ((host_Meet.f k t199 t198).bind fun bt203 => (if bt201.1.toList = bt203.1.toList then (tolllaw02_HostTurns.j0 k t198 t199 t200 bt201.1 bt201.2 (bt201.2 != bt203.2)) else (none)))))) = some r := H
  have A4 := Aside0.mk A40
  clear A40
  replace H := Option.bind_eq_some_iff.mp H
  obtain ⟨t199, A50, H⟩ := H
  replace H : ((tolllaw01_Few.f a2).bind fun t200 => ((host_Meet.f k t198 t199).bind fun bt201 => ((host_Meet.f k t199 t198).bind fun bt203 => (if bt201.1.toList = bt203.1.toList then (tolllaw02_HostTurns.j0 k t198 t199 t200 bt201.1 bt201.2 (bt201.2 != bt203.2)) else (none))))) = some r := H
  have A5 := Aside0.mk A50
  clear A50
  replace H := Option.bind_eq_some_iff.mp H
  obtain ⟨t200, A60, H⟩ := H
  replace H : ((host_Meet.f k t198 t199).bind fun bt201 => ((host_Meet.f k t199 t198).bind fun bt203 => (if bt201.1.toList = bt203.1.toList then (tolllaw02_HostTurns.j0 k t198 t199 t200 bt201.1 bt201.2 (bt201.2 != bt203.2)) else (none)))) = some r := H
  have A6 := Aside0.mk A60
  clear A60
  replace H := Option.bind_eq_some_iff.mp H
  obtain ⟨⟨t201, t202⟩, A70, H⟩ := H
  replace H : ((host_Meet.f k t199 t198).bind fun bt203 => (if t201.toList = bt203.1.toList then (tolllaw02_HostTurns.j0 k t198 t199 t200 t201 t202 (t202 != bt203.2)) else (none))) = some r := H
  have A7 := Aside0.mk A70
  clear A70
  replace H := Option.bind_eq_some_iff.mp H
  obtain ⟨⟨t203, t204⟩, A80, H⟩ := H
  replace H : (if t201.toList = t203.toList then (tolllaw02_HostTurns.j0 k t198 t199 t200 t201 t202 (t202 != t204)) else (none)) = some r := H
  have A8 := Aside0.mk A80
  clear A80
  have HC9 := Aside0.mk H
  clear H
  go_enter Tryd.func5, Tryd.ntmps5
  go_upto_region 4 with (first | ((with_reducible refine gate_callee (f := 11) rfl ?_); refine goesL_ (some 20) rfl rfl Tryd.func11 (by kernel_rfl) rfl #[.string a0] rfl (by (try simp only [List.map_toArray, List.map_cons, List.map_nil]); first | done | rfl | (simp only [List.length_drop, List.length_take]; rfl)) ?_; (with_reducible refine (tolllaw01_Few.calls a0 t198 _ A4.out).mono ?_); rintro e w' ⟨rfl, ⟨nd, rfl⟩⟩; refine ⟨_, rfl, ?_⟩) | ((with_reducible refine gate_callee (f := 11) rfl ?_); refine goesL_ (some 22) rfl rfl Tryd.func11 (by kernel_rfl) rfl #[.string a1] rfl (by (try simp only [List.map_toArray, List.map_cons, List.map_nil]); first | done | rfl | (simp only [List.length_drop, List.length_take]; rfl)) ?_; (with_reducible refine (tolllaw01_Few.calls a1 t199 _ A5.out).mono ?_); rintro e w' ⟨rfl, ⟨nd, rfl⟩⟩; refine ⟨_, rfl, ?_⟩) | ((with_reducible refine gate_callee (f := 11) rfl ?_); refine goesL_ (some 24) rfl rfl Tryd.func11 (by kernel_rfl) rfl #[.string a2] rfl (by (try simp only [List.map_toArray, List.map_cons, List.map_nil]); first | done | rfl | (simp only [List.length_drop, List.length_take]; rfl)) ?_; (with_reducible refine (tolllaw01_Few.calls a2 t200 _ A6.out).mono ?_); rintro e w' ⟨rfl, ⟨nd, rfl⟩⟩; refine ⟨_, rfl, ?_⟩) | ((with_reducible refine gate_callee (f := 17) rfl ?_); refine goesL_ (some 28) rfl rfl Tryd.func17 (by kernel_rfl) rfl #[.string t198, .string t199] rfl (by (try simp only [List.map_toArray, List.map_cons, List.map_nil]); first | done | rfl | (simp only [List.length_drop, List.length_take]; rfl)) ?_; (with_reducible refine (host_Meet.calls k t198 t199 t201 t202 _ A7.out).mono ?_); rintro e w10 ⟨rfl, hb⟩; refine ⟨_, rfl, ?_⟩; have n0_ := Aside0.mk (below_step (by repeat (first | (with_reducible first | exact HB.out | apply below_alloc | apply pw_below_drewN | apply below_drew1) | exact HB.out)) hb); clear HB; have HB := n0_; clear n0_; (try clear hb); (try clear hb2); (try clear hk); (try clear hi)) | ((with_reducible refine gate_callee (f := 17) rfl ?_); refine goesL_ (some 34) rfl rfl Tryd.func17 (by kernel_rfl) rfl #[.string t199, .string t198] rfl (by (try simp only [List.map_toArray, List.map_cons, List.map_nil]); first | done | rfl | (simp only [List.length_drop, List.length_take]; rfl)) ?_; (with_reducible refine (host_Meet.calls k t199 t198 t203 t204 _ A8.out).mono ?_); rintro e w11 ⟨rfl, hb⟩; refine ⟨_, rfl, ?_⟩; have n0_ := Aside0.mk (below_step (by repeat (first | (with_reducible first | exact HB.out | apply below_alloc | apply pw_below_drewN | apply below_drew1) | exact HB.out)) hb); clear HB; have HB := n0_; clear n0_; (try clear hb); (try clear hb2); (try clear hk); (try clear hi)))
  (try simp only [Act.put, List.setIfInBounds_toArray, List.set_cons_zero, List.set_cons_succ])
  go_cut [44] (fun v44 wc => ∃ (kq : Nat) (x44_8 : Bool), v44 = .bool x44_8 ∧ Aside0 (tolllaw02_HostTurns.j0 kq t198 t199 t200 t201 t202 x44_8 = some r) ∧ Aside0 (kq ≤ k) ∧ Aside0 (Below w.heap.size w wc))
  case first =>
    have H := HC9.out
    clear HC9
    by_cases c12 : t201.toList = t203.toList
    · rw [if_pos c12] at H
      have c12b0 : (t201.toList == t203.toList) = true := beq_iff_eq.mpr c12
      have c12b1 : (t201.toList != t203.toList) = false := bne_eq_false_iff_eq.mpr c12
      clear c12
      (first | rw [c12b0] | rw [c12b1] | rw [c12b2] | (simp only [i64_w, i32_w]; rw [c12b0]) | skip)
      have H' := Aside0.mk H
      clear H
      go_wp2
      go_meet
      case rel => exact ⟨_, ((t202 != t204)), (by first | rfl | (simp; done) | (simp [*]; done) | (simp [bne_nil_isEmpty, beq_nil_isEmpty]; done) | (simp [*, bne_nil_isEmpty, beq_nil_isEmpty]; done)), H', ⟨by first | omega | exact Nat.le_refl _⟩, ⟨by repeat (first | (with_reducible first | exact HB.out | apply below_alloc | apply pw_below_drewN | apply below_drew1) | exact HB.out)⟩⟩
    · rw [if_neg c12] at H
      exact absurd H (by simp)
  case rest =>
    clear HC9
    try clear c1
    try clear p2
    try clear c5
    try clear c11
    try clear c12
    try clear c12b0
    try clear c12b1
    try clear c12b2
    obtain ⟨kq, x44_8, rfl, HA, HJ8, HB⟩ := hcut
    cases kq with
    | zero => exact absurd HA.out (by simp [tolllaw02_HostTurns.j0])
    | succ kj8 =>
      have H := HA.out
      clear HA
      simp only [tolllaw02_HostTurns.j0] at H
      by_cases c13 : x44_8 = true
      · subst c13
        have H1 : (none) = some r := by rw [if_pos rfl] at H; exact H
        clear H
        have H := H1
        clear H1
        exact absurd H (by simp)
      · replace c13 := Bool.eq_false_iff.mpr c13
        subst c13
        have H1 : ((host_Meet.f kj8 t201 t200).bind fun bt205 => ((host_Meet.f kj8 t199 t200).bind fun bt207 => ((host_Meet.f kj8 t198 bt207.1).bind fun bt209 => (if t202 = true then (if bt207.2 = true then (if (bt205.2 != bt209.2) = true then (none) else (if bt205.2 = true then (tolllaw02_HostTurns.j1 kj8 t198 (bt205.1.toList != bt209.1.toList)) else (tolllaw02_HostTurns.j1 kj8 t198 false))) else (if (bt205.2 != false) = true then (none) else (if bt205.2 = true then (tolllaw02_HostTurns.j1 kj8 t198 (bt205.1.toList != bt209.1.toList)) else (tolllaw02_HostTurns.j1 kj8 t198 false)))) else (if bt207.2 = true then (if (false != bt209.2) = true then (none) else (tolllaw02_HostTurns.j1 kj8 t198 false)) else (if (false != false) = true then (none) else (tolllaw02_HostTurns.j1 kj8 t198 false))))))) = some r := by rw [if_neg (show ¬ (false = true) by decide)] at H; exact H
        clear H
        have H := H1
        clear H1
        replace H := Option.bind_eq_some_iff.mp H
        obtain ⟨⟨t205, t206⟩, A140, H⟩ := H
        replace H : ((host_Meet.f kj8 t199 t200).bind fun bt207 => ((host_Meet.f kj8 t198 bt207.1).bind fun bt209 => (if t202 = true then (if bt207.2 = true then (if (t206 != bt209.2) = true then (none) else (if t206 = true then (tolllaw02_HostTurns.j1 kj8 t198 (t205.toList != bt209.1.toList)) else (tolllaw02_HostTurns.j1 kj8 t198 false))) else (if (t206 != false) = true then (none) else (if t206 = true then (tolllaw02_HostTurns.j1 kj8 t198 (t205.toList != bt209.1.toList)) else (tolllaw02_HostTurns.j1 kj8 t198 false)))) else (if bt207.2 = true then (if (false != bt209.2) = true then (none) else (tolllaw02_HostTurns.j1 kj8 t198 false)) else (if (false != false) = true then (none) else (tolllaw02_HostTurns.j1 kj8 t198 false)))))) = some r := H
        have A14 := Aside0.mk A140
        clear A140
        replace H := Option.bind_eq_some_iff.mp H
        obtain ⟨⟨t207, t208⟩, A150, H⟩ := H
        replace H : ((host_Meet.f kj8 t198 t207).bind fun bt209 => (if t202 = true then (if t208 = true then (if (t206 != bt209.2) = true then (none) else (if t206 = true then (tolllaw02_HostTurns.j1 kj8 t198 (t205.toList != bt209.1.toList)) else (tolllaw02_HostTurns.j1 kj8 t198 false))) else (if (t206 != false) = true then (none) else (if t206 = true then (tolllaw02_HostTurns.j1 kj8 t198 (t205.toList != bt209.1.toList)) else (tolllaw02_HostTurns.j1 kj8 t198 false)))) else (if t208 = true then (if (false != bt209.2) = true then (none) else (tolllaw02_HostTurns.j1 kj8 t198 false)) else (if (false != false) = true then (none) else (tolllaw02_HostTurns.j1 kj8 t198 false))))) = some r := H
        have A15 := Aside0.mk A150
        clear A150
        replace H := Option.bind_eq_some_iff.mp H
        obtain ⟨⟨t209, t210⟩, A160, H⟩ := H
        replace H : (if t202 = true then (if t208 = true then (if (t206 != t210) = true then (none) else (if t206 = true then (tolllaw02_HostTurns.j1 kj8 t198 (t205.toList != t209.toList)) else (tolllaw02_HostTurns.j1 kj8 t198 false))) else (if (t206 != false) = true then (none) else (if t206 = true then (tolllaw02_HostTurns.j1 kj8 t198 (t205.toList != t209.toList)) else (tolllaw02_HostTurns.j1 kj8 t198 false)))) else (if t208 = true then (if (false != t210) = true then (none) else (tolllaw02_HostTurns.j1 kj8 t198 false)) else (if (false != false) = true then (none) else (tolllaw02_HostTurns.j1 kj8 t198 false)))) = some r := H
        have A16 := Aside0.mk A160
        clear A160
        have HC17 := Aside0.mk H
        clear H
        go_upto_region 9 with (first | ((with_reducible refine gate_callee (f := 17) rfl ?_); refine goesL_ (some 48) rfl rfl Tryd.func17 (by kernel_rfl) rfl #[.string t201, .string t200] rfl (by (try simp only [List.map_toArray, List.map_cons, List.map_nil]); first | done | rfl | (simp only [List.length_drop, List.length_take]; rfl)) ?_; (with_reducible refine (host_Meet.calls kj8 t201 t200 t205 t206 _ A14.out).mono ?_); rintro e w18 ⟨rfl, hb⟩; refine ⟨_, rfl, ?_⟩; have n0_ := Aside0.mk (below_step (by repeat (first | (with_reducible first | exact HB.out | apply below_alloc | apply pw_below_drewN | apply below_drew1) | exact HB.out)) hb); clear HB; have HB := n0_; clear n0_; (try clear hb); (try clear hb2); (try clear hk); (try clear hi)) | ((with_reducible refine gate_callee (f := 17) rfl ?_); refine goesL_ (some 54) rfl rfl Tryd.func17 (by kernel_rfl) rfl #[.string t199, .string t200] rfl (by (try simp only [List.map_toArray, List.map_cons, List.map_nil]); first | done | rfl | (simp only [List.length_drop, List.length_take]; rfl)) ?_; (with_reducible refine (host_Meet.calls kj8 t199 t200 t207 t208 _ A15.out).mono ?_); rintro e w19 ⟨rfl, hb⟩; refine ⟨_, rfl, ?_⟩; have n0_ := Aside0.mk (below_step (by repeat (first | (with_reducible first | exact HB.out | apply below_alloc | apply pw_below_drewN | apply below_drew1) | exact HB.out)) hb); clear HB; have HB := n0_; clear n0_; (try clear hb); (try clear hb2); (try clear hk); (try clear hi)) | ((with_reducible refine gate_callee (f := 17) rfl ?_); refine goesL_ (some 60) rfl rfl Tryd.func17 (by kernel_rfl) rfl #[.string t198, .string t207] rfl (by (try simp only [List.map_toArray, List.map_cons, List.map_nil]); first | done | rfl | (simp only [List.length_drop, List.length_take]; rfl)) ?_; (with_reducible refine (host_Meet.calls kj8 t198 t207 t209 t210 _ A16.out).mono ?_); rintro e w20 ⟨rfl, hb⟩; refine ⟨_, rfl, ?_⟩; have n0_ := Aside0.mk (below_step (by repeat (first | (with_reducible first | exact HB.out | apply below_alloc | apply pw_below_drewN | apply below_drew1) | exact HB.out)) hb); clear HB; have HB := n0_; clear n0_; (try clear hb); (try clear hb2); (try clear hk); (try clear hi)))
        (try simp only [Act.put, List.setIfInBounds_toArray, List.set_cons_zero, List.set_cons_succ])
        go_cut [82] (fun v82 wc => ∃ (kq : Nat) (x82_16 : Bool), v82 = .bool x82_16 ∧ Aside0 (tolllaw02_HostTurns.j1 kq t198 x82_16 = some r) ∧ Aside0 (kq ≤ kj8) ∧ Aside0 (Below w.heap.size w wc))
        case first =>
          have H := HC17.out
          clear HC17
          by_cases c21 : t202 = true
          · subst c21
            have H1 : (if t208 = true then (if (t206 != t210) = true then (none) else (if t206 = true then (tolllaw02_HostTurns.j1 kj8 t198 (t205.toList != t209.toList)) else (tolllaw02_HostTurns.j1 kj8 t198 false))) else (if (t206 != false) = true then (none) else (if t206 = true then (tolllaw02_HostTurns.j1 kj8 t198 (t205.toList != t209.toList)) else (tolllaw02_HostTurns.j1 kj8 t198 false)))) = some r := by rw [if_pos rfl] at H; exact H
            clear H
            have H := H1
            clear H1
            by_cases c22 : t208 = true
            · subst c22
              have H1 : (if (t206 != t210) = true then (none) else (if t206 = true then (tolllaw02_HostTurns.j1 kj8 t198 (t205.toList != t209.toList)) else (tolllaw02_HostTurns.j1 kj8 t198 false))) = some r := by rw [if_pos rfl] at H; exact H
              clear H
              have H := H1
              clear H1
              by_cases c23 : (t206 != t210) = true
              · rw [if_pos c23] at H
                exact absurd H (by simp)
              · rw [if_neg c23] at H
                have c23b0 : (t206 != t210) = false := by simpa using c23
                (try (have c23b1 : decide (t206 = t210) = true := by simpa using c23))
                (try (have c23b2 : (t206 == t210) = true := by simpa using c23))
                clear c23
                (first | rw [c23b0] | rw [c23b1] | rw [c23b2] | (simp only [i64_w, i32_w]; rw [c23b0]) | skip)
                by_cases c24 : t206 = true
                · subst c24
                  have H1 : (tolllaw02_HostTurns.j1 kj8 t198 (t205.toList != t209.toList)) = some r := by rw [if_pos rfl] at H; exact H
                  clear H
                  have H := H1
                  clear H1
                  have H' := Aside0.mk H
                  clear H
                  go_wp2
                  go_meet
                  case rel => exact ⟨_, ((t205.toList != t209.toList)), (by first | rfl | (simp; done) | (simp [*]; done) | (simp [bne_nil_isEmpty, beq_nil_isEmpty]; done) | (simp [*, bne_nil_isEmpty, beq_nil_isEmpty]; done)), H', ⟨by have := HJ8.out; first | omega | exact Nat.le_refl _⟩, ⟨by repeat (first | (with_reducible first | exact HB.out | apply below_alloc | apply pw_below_drewN | apply below_drew1) | exact HB.out)⟩⟩
                · replace c24 := Bool.eq_false_iff.mpr c24
                  subst c24
                  have H1 : (tolllaw02_HostTurns.j1 kj8 t198 false) = some r := by rw [if_neg (show ¬ (false = true) by decide)] at H; exact H
                  clear H
                  have H := H1
                  clear H1
                  have H' := Aside0.mk H
                  clear H
                  go_wp2
                  go_meet
                  case rel => exact ⟨_, (false), (by first | rfl | (simp; done) | (simp [*]; done) | (simp [bne_nil_isEmpty, beq_nil_isEmpty]; done) | (simp [*, bne_nil_isEmpty, beq_nil_isEmpty]; done)), H', ⟨by have := HJ8.out; first | omega | exact Nat.le_refl _⟩, ⟨by repeat (first | (with_reducible first | exact HB.out | apply below_alloc | apply pw_below_drewN | apply below_drew1) | exact HB.out)⟩⟩
            · replace c22 := Bool.eq_false_iff.mpr c22
              subst c22
              have H1 : (if (t206 != false) = true then (none) else (if t206 = true then (tolllaw02_HostTurns.j1 kj8 t198 (t205.toList != t209.toList)) else (tolllaw02_HostTurns.j1 kj8 t198 false))) = some r := by rw [if_neg (show ¬ (false = true) by decide)] at H; exact H
              clear H
              have H := H1
              clear H1
              by_cases c25 : (t206 != false) = true
              · rw [if_pos c25] at H
                exact absurd H (by simp)
              · rw [if_neg c25] at H
                have c25b0 : (t206 != false) = false := by simpa using c25
                (try (have c25b1 : decide (t206 = false) = true := by simpa using c25))
                (try (have c25b2 : (t206 == false) = true := by simpa using c25))
                clear c25
                by_cases c26 : t206 = true
                · subst c26
                  have H1 : (tolllaw02_HostTurns.j1 kj8 t198 (t205.toList != t209.toList)) = some r := by rw [if_pos rfl] at H; exact H
                  clear H
                  have H := H1
                  clear H1
                  have H' := Aside0.mk H
                  clear H
                  go_wp2
                  go_meet
                  case rel => exact ⟨_, ((t205.toList != t209.toList)), (by first | rfl | (simp; done) | (simp [*]; done) | (simp [bne_nil_isEmpty, beq_nil_isEmpty]; done) | (simp [*, bne_nil_isEmpty, beq_nil_isEmpty]; done)), H', ⟨by have := HJ8.out; first | omega | exact Nat.le_refl _⟩, ⟨by repeat (first | (with_reducible first | exact HB.out | apply below_alloc | apply pw_below_drewN | apply below_drew1) | exact HB.out)⟩⟩
                · replace c26 := Bool.eq_false_iff.mpr c26
                  subst c26
                  have H1 : (tolllaw02_HostTurns.j1 kj8 t198 false) = some r := by rw [if_neg (show ¬ (false = true) by decide)] at H; exact H
                  clear H
                  have H := H1
                  clear H1
                  have H' := Aside0.mk H
                  clear H
                  go_wp2
                  go_meet
                  case rel => exact ⟨_, (false), (by first | rfl | (simp; done) | (simp [*]; done) | (simp [bne_nil_isEmpty, beq_nil_isEmpty]; done) | (simp [*, bne_nil_isEmpty, beq_nil_isEmpty]; done)), H', ⟨by have := HJ8.out; first | omega | exact Nat.le_refl _⟩, ⟨by repeat (first | (with_reducible first | exact HB.out | apply below_alloc | apply pw_below_drewN | apply below_drew1) | exact HB.out)⟩⟩
          · replace c21 := Bool.eq_false_iff.mpr c21
            subst c21
            have H1 : (if t208 = true then (if (false != t210) = true then (none) else (tolllaw02_HostTurns.j1 kj8 t198 false)) else (if (false != false) = true then (none) else (tolllaw02_HostTurns.j1 kj8 t198 false))) = some r := by rw [if_neg (show ¬ (false = true) by decide)] at H; exact H
            clear H
            have H := H1
            clear H1
            by_cases c27 : t208 = true
            · subst c27
              have H1 : (if (false != t210) = true then (none) else (tolllaw02_HostTurns.j1 kj8 t198 false)) = some r := by rw [if_pos rfl] at H; exact H
              clear H
              have H := H1
              clear H1
              by_cases c28 : (false != t210) = true
              · rw [if_pos c28] at H
                exact absurd H (by simp)
              · rw [if_neg c28] at H
                have c28b0 : (false != t210) = false := by simpa using c28
                (try (have c28b1 : decide (false = t210) = true := by simpa using c28))
                (try (have c28b2 : (false == t210) = true := by simpa using c28))
                clear c28
                have H' := Aside0.mk H
                clear H
                go_wp2
                go_meet
                case rel => exact ⟨_, (false), (by first | rfl | (simp; done) | (simp [*]; done) | (simp [bne_nil_isEmpty, beq_nil_isEmpty]; done) | (simp [*, bne_nil_isEmpty, beq_nil_isEmpty]; done)), H', ⟨by have := HJ8.out; first | omega | exact Nat.le_refl _⟩, ⟨by repeat (first | (with_reducible first | exact HB.out | apply below_alloc | apply pw_below_drewN | apply below_drew1) | exact HB.out)⟩⟩
            · replace c27 := Bool.eq_false_iff.mpr c27
              subst c27
              have H1 : (if (false != false) = true then (none) else (tolllaw02_HostTurns.j1 kj8 t198 false)) = some r := by rw [if_neg (show ¬ (false = true) by decide)] at H; exact H
              clear H
              have H := H1
              clear H1
              by_cases c29 : (false != false) = true
              · rw [if_pos c29] at H
                exact absurd H (by simp)
              · rw [if_neg c29] at H
                have c29b0 : (false != false) = false := by simp
                (try (have c29b1 : decide (false = false) = true := by simp))
                (try (have c29b2 : (false == false) = true := by simp))
                clear c29
                have H' := Aside0.mk H
                clear H
                go_wp2
                go_meet
                case rel => exact ⟨_, (false), (by first | rfl | (simp; done) | (simp [*]; done) | (simp [bne_nil_isEmpty, beq_nil_isEmpty]; done) | (simp [*, bne_nil_isEmpty, beq_nil_isEmpty]; done)), H', ⟨by have := HJ8.out; first | omega | exact Nat.le_refl _⟩, ⟨by repeat (first | (with_reducible first | exact HB.out | apply below_alloc | apply pw_below_drewN | apply below_drew1) | exact HB.out)⟩⟩
        case rest =>
          clear HC17
          try clear c1
          try clear c2
          try clear p2
          try clear c5
          try clear c11
          try clear c12
          try clear c12b0
          try clear c12b1
          try clear c12b2
          try clear c13
          try clear c17
          try clear c21
          try clear c22
          try clear c23
          try clear c23b0
          try clear c23b1
          try clear c23b2
          try clear c24
          try clear c25
          try clear c25b0
          try clear c25b1
          try clear c25b2
          try clear c26
          try clear c27
          try clear c28
          try clear c28b0
          try clear c28b1
          try clear c28b2
          try clear c29
          try clear c29b0
          try clear c29b1
          try clear c29b2
          try clear p2
          obtain ⟨kq, x82_16, rfl, HA, HJ16, HB⟩ := hcut
          cases kq with
          | zero => exact absurd HA.out (by simp [tolllaw02_HostTurns.j1])
          | succ kj16 =>
            have H := HA.out
            clear HA
            simp only [tolllaw02_HostTurns.j1] at H
            by_cases c30 : x82_16 = true
            · subst c30
              have H1 : (none) = some r := by rw [if_pos rfl] at H; exact H
              clear H
              have H := H1
              clear H1
              exact absurd H (by simp)
            · replace c30 := Bool.eq_false_iff.mpr c30
              subst c30
              have H1 : ((host_Meet.f kj16 t198 t198).bind fun bt211 => ((host_May.f t198).bind fun t213 => (if (bt211.2 == t213) = true then (if bt211.2 = true then (if bt211.1.toList = t198.toList then ((tolllaw02_awake.f kj16).bind fun t214 => (some t214)) else (none)) else ((tolllaw02_awake.f kj16).bind fun t215 => (some t215))) else (none)))) = some r := by rw [if_neg (show ¬ (false = true) by decide)] at H; exact H
              clear H
              have H := H1
              clear H1
              replace H := Option.bind_eq_some_iff.mp H
              obtain ⟨⟨t211, t212⟩, A310, H⟩ := H
              replace H : ((host_May.f t198).bind fun t213 => (if (t212 == t213) = true then (if t212 = true then (if t211.toList = t198.toList then ((tolllaw02_awake.f kj16).bind fun t214 => (some t214)) else (none)) else ((tolllaw02_awake.f kj16).bind fun t215 => (some t215))) else (none))) = some r := H
              have A31 := Aside0.mk A310
              clear A310
              replace H := Option.bind_eq_some_iff.mp H
              obtain ⟨t213, A320, H⟩ := H
              replace H : (if (t212 == t213) = true then (if t212 = true then (if t211.toList = t198.toList then ((tolllaw02_awake.f kj16).bind fun t214 => (some t214)) else (none)) else ((tolllaw02_awake.f kj16).bind fun t215 => (some t215))) else (none)) = some r := H
              have A32 := Aside0.mk A320
              clear A320
              by_cases c33 : (t212 == t213) = true
              · rw [if_pos c33] at H
                have c33b0 : (t212 == t213) = true := c33
                (try (have c33b1 : decide (t212 = t213) = true := by simpa using c33))
                (try (have c33b2 : (t212 == t213) = true := by simpa using c33))
                clear c33
                by_cases c34 : t212 = true
                · subst c34
                  have H1 : (if t211.toList = t198.toList then ((tolllaw02_awake.f kj16).bind fun t214 => (some t214)) else (none)) = some r := by rw [if_pos rfl] at H; exact H
                  clear H
                  have H := H1
                  clear H1
                  by_cases c35 : t211.toList = t198.toList
                  · rw [if_pos c35] at H
                    have c35b0 : (t211.toList == t198.toList) = true := beq_iff_eq.mpr c35
                    have c35b1 : (t211.toList != t198.toList) = false := bne_eq_false_iff_eq.mpr c35
                    clear c35
                    replace H := Option.bind_eq_some_iff.mp H
                    obtain ⟨t214, A360, H⟩ := H
                    replace H : (some t214) = some r := H
                    have A36 := Aside0.mk A360
                    clear A360
                    obtain rfl := Option.some.inj H
                    go_wp2_with (first | ((with_reducible refine gate_callee (f := 17) rfl ?_); refine goesL_ (some 86) rfl rfl Tryd.func17 (by kernel_rfl) rfl #[.string t198, .string t198] rfl (by (try simp only [List.map_toArray, List.map_cons, List.map_nil]); first | done | rfl | (simp only [List.length_drop, List.length_take]; rfl)) ?_; (with_reducible refine (host_Meet.calls kj16 t198 t198 t211 true _ A31.out).mono ?_); rintro e w37 ⟨rfl, hb⟩; refine ⟨_, rfl, ?_⟩; have n0_ := Aside0.mk (below_step (by repeat (first | (with_reducible first | exact HB.out | apply below_alloc | apply pw_below_drewN | apply below_drew1) | exact HB.out)) hb); clear HB; have HB := n0_; clear n0_; (try clear hb); (try clear hb2); (try clear hk); (try clear hi)) | ((with_reducible refine gate_callee (f := 12) rfl ?_); refine goesL_ (some 91) rfl rfl Tryd.func12 (by kernel_rfl) rfl #[.string t198] rfl (by (try simp only [List.map_toArray, List.map_cons, List.map_nil]); first | done | rfl | (simp only [List.length_drop, List.length_take]; rfl)) ?_; (with_reducible refine (host_May.calls t198 t213 _ A32.out).mono ?_); rintro e w38 ⟨rfl, hb⟩; refine ⟨_, rfl, ?_⟩; have n0_ := Aside0.mk (below_step (by repeat (first | (with_reducible first | exact HB.out | apply below_alloc | apply pw_below_drewN | apply below_drew1) | exact HB.out)) hb); clear HB; have HB := n0_; clear n0_; (try clear hb); (try clear hb2); (try clear hk); (try clear hi)) | (go_at_call 16; (with_reducible refine (tolllaw02_awake.calls kj16  t214 _ A36.out).mono ?_); rintro e w39 ⟨rfl, hb⟩; have n0_ := Aside0.mk (below_step (by repeat (first | (with_reducible first | exact HB.out | apply below_alloc | apply pw_below_drewN | apply below_drew1) | exact HB.out)) hb); clear HB; have HB := n0_; clear n0_; (try clear hb); (try clear hb2); (try clear hk); (try clear hi)))
                    go_ret
                    exact ⟨by first | rfl | (simp [errW_none, errW_some] <;> rfl) | (simp [*, errW_none, errW_some] <;> rfl), by repeat (first | (with_reducible first | exact HB.out | apply below_alloc | apply pw_below_drewN | apply below_drew1) | exact HB.out)⟩
                  · rw [if_neg c35] at H
                    exact absurd H (by simp)
                · replace c34 := Bool.eq_false_iff.mpr c34
                  subst c34
                  have H1 : ((tolllaw02_awake.f kj16).bind fun t215 => (some t215)) = some r := by rw [if_neg (show ¬ (false = true) by decide)] at H; exact H
                  clear H
                  have H := H1
                  clear H1
                  replace H := Option.bind_eq_some_iff.mp H
                  obtain ⟨t215, A400, H⟩ := H
                  replace H : (some t215) = some r := H
                  have A40 := Aside0.mk A400
                  clear A400
                  obtain rfl := Option.some.inj H
                  go_wp2_with (first | ((with_reducible refine gate_callee (f := 17) rfl ?_); refine goesL_ (some 86) rfl rfl Tryd.func17 (by kernel_rfl) rfl #[.string t198, .string t198] rfl (by (try simp only [List.map_toArray, List.map_cons, List.map_nil]); first | done | rfl | (simp only [List.length_drop, List.length_take]; rfl)) ?_; (with_reducible refine (host_Meet.calls kj16 t198 t198 t211 false _ A31.out).mono ?_); rintro e w41 ⟨rfl, hb⟩; refine ⟨_, rfl, ?_⟩; have n0_ := Aside0.mk (below_step (by repeat (first | (with_reducible first | exact HB.out | apply below_alloc | apply pw_below_drewN | apply below_drew1) | exact HB.out)) hb); clear HB; have HB := n0_; clear n0_; (try clear hb); (try clear hb2); (try clear hk); (try clear hi)) | ((with_reducible refine gate_callee (f := 12) rfl ?_); refine goesL_ (some 91) rfl rfl Tryd.func12 (by kernel_rfl) rfl #[.string t198] rfl (by (try simp only [List.map_toArray, List.map_cons, List.map_nil]); first | done | rfl | (simp only [List.length_drop, List.length_take]; rfl)) ?_; (with_reducible refine (host_May.calls t198 t213 _ A32.out).mono ?_); rintro e w42 ⟨rfl, hb⟩; refine ⟨_, rfl, ?_⟩; have n0_ := Aside0.mk (below_step (by repeat (first | (with_reducible first | exact HB.out | apply below_alloc | apply pw_below_drewN | apply below_drew1) | exact HB.out)) hb); clear HB; have HB := n0_; clear n0_; (try clear hb); (try clear hb2); (try clear hk); (try clear hi)) | (go_at_call 16; (with_reducible refine (tolllaw02_awake.calls kj16  t215 _ A40.out).mono ?_); rintro e w43 ⟨rfl, hb⟩; have n0_ := Aside0.mk (below_step (by repeat (first | (with_reducible first | exact HB.out | apply below_alloc | apply pw_below_drewN | apply below_drew1) | exact HB.out)) hb); clear HB; have HB := n0_; clear n0_; (try clear hb); (try clear hb2); (try clear hk); (try clear hi)))
                  go_ret
                  exact ⟨by first | rfl | (simp [errW_none, errW_some] <;> rfl) | (simp [*, errW_none, errW_some] <;> rfl), by repeat (first | (with_reducible first | exact HB.out | apply below_alloc | apply pw_below_drewN | apply below_drew1) | exact HB.out)⟩
              · rw [if_neg c33] at H
                exact absurd H (by simp)

/-- THE ONE PURE STATEMENT of tolllaw02_HostTurns: yours. -/
def tolllaw02_HostTurns.Pure : Prop := ∀ (a0 : ByteArray) (a1 : ByteArray) (a2 : ByteArray), a0.size ≤ 140737488351232 → a1.size ≤ 140737488351232 → a2.size ≤ 140737488351232 → ∃ k, tolllaw02_HostTurns.f k a0 a1 a2 = some true
theorem tolllaw02_HostTurns.walk (P : tolllaw02_HostTurns.Pure) (a0 : ByteArray) (a1 : ByteArray) (a2 : ByteArray) (w : World) (w0 : a0.size ≤ 140737488351232) (w1 : a1.size ≤ 140737488351232) (w2 : a2.size ≤ 140737488351232) :
    Calls Tryd.prog 5 #[.string a0, .string a1, .string a2] w fun e w' => e = .returned (.bool true) ∧ Below w.heap.size w w' := by
  obtain ⟨k, h⟩ := P a0 a1 a2 w0 w1 w2
  refine (tolllaw02_HostTurns.calls k a0 a1 a2 true w h).mono ?_
  rintro e w' ⟨rfl, hd⟩
  exact ⟨rfl, hd⟩

end Go.Proofs.YtjfjmniegceejaaDoor.P
