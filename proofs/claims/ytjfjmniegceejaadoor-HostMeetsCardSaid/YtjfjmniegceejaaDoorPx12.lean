-- written by wip/tool/hprint.py of this repo: the kit's print, with contracts by hand joined; Lean checks it.
import Derived.Test.YtjfjmniegceejaaDoorPx0
import Derived.Test.YtjfjmniegceejaaDoorPx4
import Derived.Test.YtjfjmniegceejaaDoorPx5
namespace Go.Proofs.YtjfjmniegceejaaDoor.P
open Go.RowKit Go.Proofs.YtjfjmniegceejaaDoorW.PrintWords Go.Proofs.YtjfjmniegceejaaDoorW.PrintLast Go.Proofs.YtjfjmniegceejaaDoorW.PrintMore
attribute [local go_sem] max2_int min2_int max_two min_two max_three min_three max_four min_four   -- for this text's walks alone
set_option linter.unusedVariables false
set_option linter.unusedSimpArgs false

/-! ### tollref02_Meet: function 20 -/
mutual
def tollref02_Meet.j0 : Nat → ByteArray → ByteArray → Bool → Option (ByteArray × Bool)
  | 0, _, _, _ => none
  | k + 1, x0, x1, x17 => if x17 = true then (some ((⟨#[]⟩ : ByteArray), false)) else (if x0.toList = ([] : List UInt8) then (some (x1, true)) else (if x1.toList = ([] : List UInt8) then (tollref02_Meet.j1 k x0 x1 true) else (tollref02_Meet.j1 k x0 x1 (x0.toList == x1.toList))))
def tollref02_Meet.j1 : Nat → ByteArray → ByteArray → Bool → Option (ByteArray × Bool)
  | 0, _, _, _ => none
  | k + 1, x0, x1, x27 => if x27 = true then (some (x0, true)) else ((tollref02_wide.f x0).bind fun bt219 => ((tollref02_wide.f x1).bind fun bt221 => (if bt221.2 = true then ((tollref01_Under.f k bt219.1 bt221.1).bind fun t223 => (tollref02_Meet.j2 k x0 x1 bt219.1 bt219.2 bt221.1 t223)) else (tollref02_Meet.j2 k x0 x1 bt219.1 bt219.2 bt221.1 false))))
def tollref02_Meet.j2 : Nat → ByteArray → ByteArray → ByteArray → Bool → ByteArray → Bool → Option (ByteArray × Bool)
  | 0, _, _, _, _, _, _ => none
  | k + 1, x0, x1, x6, x7, x8, x44 => if x44 = true then (some (x0, true)) else (if x7 = true then ((tollref01_Under.f k x8 x6).bind fun t224 => (if t224 = true then (some (x1, true)) else (some ((⟨#[]⟩ : ByteArray), false)))) else (some ((⟨#[]⟩ : ByteArray), false)))
end
def tollref02_Meet.f (k : Nat) (a0 : ByteArray) (a1 : ByteArray) : Option (ByteArray × Bool) := (tollref02_May.f k a0).bind fun t217 => (if t217 = true then ((tollref02_May.f k a1).bind fun t218 => (tollref02_Meet.j0 k a0 a1 (!t218))) else (tollref02_Meet.j0 k a0 a1 true))
theorem tollref02_Meet.mono_l : ∀ k, (∀ y0 y1 y2, LeO (tollref02_Meet.j0 k y0 y1 y2) (tollref02_Meet.j0 (k + 1) y0 y1 y2)) ∧ (∀ y0 y1 y2, LeO (tollref02_Meet.j1 k y0 y1 y2) (tollref02_Meet.j1 (k + 1) y0 y1 y2)) ∧ (∀ y0 y1 y2 y3 y4 y5, LeO (tollref02_Meet.j2 k y0 y1 y2 y3 y4 y5) (tollref02_Meet.j2 (k + 1) y0 y1 y2 y3 y4 y5))
  | 0 => ⟨fun _ _ _ r h => by simp [tollref02_Meet.j0] at h, fun _ _ _ r h => by simp [tollref02_Meet.j1] at h, fun _ _ _ _ _ _ r h => by simp [tollref02_Meet.j2] at h⟩
  | k + 1 => by
    obtain ⟨ih0, ih1, ih2⟩ := tollref02_Meet.mono_l k
    refine ⟨?_, ?_, ?_⟩
    · intro y0 y1 y2
      unfold tollref02_Meet.j0
      repeat' first
      | (with_reducible exact ih0 _ _ _)
      | (with_reducible exact ih1 _ _ _)
      | (with_reducible exact ih2 _ _ _ _ _ _)
      | (with_reducible exact tollref01_Under.mono _ _ _)
      | (with_reducible exact tollref02_May.mono _ _)
      | (with_reducible exact LeO.refl _)
      | (with_reducible exact LeO.none _)
      | (with_reducible refine LeO.ite ?_ ?_)
      | (with_reducible refine LeO.bind ?_ (fun _ => ?_))
      | exact ih0 _ _ _
      | exact ih1 _ _ _
      | exact ih2 _ _ _ _ _ _
      | exact tollref01_Under.mono _ _ _
      | exact tollref02_May.mono _ _
      | exact LeO.none _
      | refine LeO.ite ?_ ?_
      | refine LeO.bind ?_ (fun _ => ?_)
    · intro y0 y1 y2
      unfold tollref02_Meet.j1
      repeat' first
      | (with_reducible exact ih0 _ _ _)
      | (with_reducible exact ih1 _ _ _)
      | (with_reducible exact ih2 _ _ _ _ _ _)
      | (with_reducible exact tollref01_Under.mono _ _ _)
      | (with_reducible exact tollref02_May.mono _ _)
      | (with_reducible exact LeO.refl _)
      | (with_reducible exact LeO.none _)
      | (with_reducible refine LeO.ite ?_ ?_)
      | (with_reducible refine LeO.bind ?_ (fun _ => ?_))
      | exact ih0 _ _ _
      | exact ih1 _ _ _
      | exact ih2 _ _ _ _ _ _
      | exact tollref01_Under.mono _ _ _
      | exact tollref02_May.mono _ _
      | exact LeO.none _
      | refine LeO.ite ?_ ?_
      | refine LeO.bind ?_ (fun _ => ?_)
    · intro y0 y1 y2 y3 y4 y5
      unfold tollref02_Meet.j2
      repeat' first
      | (with_reducible exact ih0 _ _ _)
      | (with_reducible exact ih1 _ _ _)
      | (with_reducible exact ih2 _ _ _ _ _ _)
      | (with_reducible exact tollref01_Under.mono _ _ _)
      | (with_reducible exact tollref02_May.mono _ _)
      | (with_reducible exact LeO.refl _)
      | (with_reducible exact LeO.none _)
      | (with_reducible refine LeO.ite ?_ ?_)
      | (with_reducible refine LeO.bind ?_ (fun _ => ?_))
      | exact ih0 _ _ _
      | exact ih1 _ _ _
      | exact ih2 _ _ _ _ _ _
      | exact tollref01_Under.mono _ _ _
      | exact tollref02_May.mono _ _
      | exact LeO.none _
      | refine LeO.ite ?_ ?_
      | refine LeO.bind ?_ (fun _ => ?_)
theorem tollref02_Meet.mono : ∀ a0 a1 k, LeO (tollref02_Meet.f k a0 a1) (tollref02_Meet.f (k + 1) a0 a1) := by
  intro a0 a1 k
  obtain ⟨ih0, ih1, ih2⟩ := tollref02_Meet.mono_l k
  unfold tollref02_Meet.f
  repeat' first
      | (with_reducible exact ih0 _ _ _)
      | (with_reducible exact ih1 _ _ _)
      | (with_reducible exact ih2 _ _ _ _ _ _)
      | (with_reducible exact tollref01_Under.mono _ _ _)
      | (with_reducible exact tollref02_May.mono _ _)
      | (with_reducible exact LeO.refl _)
      | (with_reducible exact LeO.none _)
      | (with_reducible refine LeO.ite ?_ ?_)
      | (with_reducible refine LeO.bind ?_ (fun _ => ?_))
      | exact ih0 _ _ _
      | exact ih1 _ _ _
      | exact ih2 _ _ _ _ _ _
      | exact tollref01_Under.mono _ _ _
      | exact tollref02_May.mono _ _
      | exact LeO.none _
      | refine LeO.ite ?_ ?_
      | refine LeO.bind ?_ (fun _ => ?_)
set_option maxHeartbeats 8000000 in
set_option maxRecDepth 100000 in
theorem tollref02_Meet.calls (k : Nat) (a0 : ByteArray) (a1 : ByteArray) (r1 : ByteArray) (r2 : Bool) (w : World) (h : tollref02_Meet.f k a0 a1 = some (r1, r2)) :
    Calls Tryd.prog 20 #[.string a0, .string a1] w fun e w' => e = .returned (.tuple #[.string r1, .bool r2]) ∧ Below w.heap.size w w' := by
  have HB := Aside0.mk (Below.refl w.heap.size w)
  have H : ((tollref02_May.f k a0).bind fun t217 => (if t217 = true then ((tollref02_May.f k a1).bind fun t218 => (tollref02_Meet.j0 k a0 a1 (!t218))) else (tollref02_Meet.j0 k a0 a1 true))) = some (r1, r2) := h
  clear h
  have HC3 := Aside0.mk H
  clear H
  go_enter Tryd.func20, Tryd.ntmps20
  go_upto_region 1 with (fail)
  go_cut [17] (fun v17 wc => ∃ (kq : Nat) (x17_2 : Bool), v17 = .bool x17_2 ∧ Aside0 (tollref02_Meet.j0 kq a0 a1 x17_2 = some (r1, r2)) ∧ Aside0 (kq ≤ k) ∧ Aside0 (Below w.heap.size w wc))
  case first =>
    have H := HC3.out
    clear HC3
    replace H := Option.bind_eq_some_iff.mp H
    obtain ⟨t217, A40, H⟩ := H
    replace H : (if t217 = true then ((tollref02_May.f k a1).bind fun t218 => (tollref02_Meet.j0 k a0 a1 (!t218))) else (tollref02_Meet.j0 k a0 a1 true)) = some (r1, r2) := H
    have A4 := Aside0.mk A40
    clear A40
    by_cases c5 : t217 = true
    · subst c5
      have H1 : ((tollref02_May.f k a1).bind fun t218 => (tollref02_Meet.j0 k a0 a1 (!t218))) = some (r1, r2) := by rw [if_pos rfl] at H; exact H
      clear H
      have H := H1
      clear H1
      replace H := Option.bind_eq_some_iff.mp H
      obtain ⟨t218, A60, H⟩ := H
      replace H : (tollref02_Meet.j0 k a0 a1 (!t218)) = some (r1, r2) := H
      have A6 := Aside0.mk A60
      clear A60
      have H' := Aside0.mk H
      clear H
      go_wp2_with (first | ((with_reducible refine gate_callee (f := 13) rfl ?_); refine goesL_ (some 11) rfl rfl Tryd.func13 (by kernel_rfl) rfl #[.string a0] rfl (by (try simp only [List.map_toArray, List.map_cons, List.map_nil]); first | done | rfl | (simp only [List.length_drop, List.length_take]; rfl)) ?_; (with_reducible refine (tollref02_May.calls k a0 true _ A4.out).mono ?_); rintro e w7 ⟨rfl, hb⟩; refine ⟨_, rfl, ?_⟩; have n0_ := Aside0.mk (below_step (by repeat (first | (with_reducible first | exact HB.out | apply below_alloc | apply pw_below_drewN | apply below_drew1) | exact HB.out)) hb); clear HB; have HB := n0_; clear n0_; (try clear hb); (try clear hb2); (try clear hk); (try clear hi)) | (go_at_call 13; (with_reducible refine (tollref02_May.calls k a1 t218 _ A6.out).mono ?_); rintro e w8 ⟨rfl, hb⟩; have n0_ := Aside0.mk (below_step (by repeat (first | (with_reducible first | exact HB.out | apply below_alloc | apply pw_below_drewN | apply below_drew1) | exact HB.out)) hb); clear HB; have HB := n0_; clear n0_; (try clear hb); (try clear hb2); (try clear hk); (try clear hi)))
      go_meet
      case rel => exact ⟨_, (!t218), (by first | rfl | (simp; done) | (simp [*]; done) | (simp [bne_nil_isEmpty, beq_nil_isEmpty]; done) | (simp [*, bne_nil_isEmpty, beq_nil_isEmpty]; done)), H', ⟨by first | omega | exact Nat.le_refl _⟩, ⟨by repeat (first | (with_reducible first | exact HB.out | apply below_alloc | apply pw_below_drewN | apply below_drew1) | exact HB.out)⟩⟩
    · replace c5 := Bool.eq_false_iff.mpr c5
      subst c5
      have H1 : (tollref02_Meet.j0 k a0 a1 true) = some (r1, r2) := by rw [if_neg (show ¬ (false = true) by decide)] at H; exact H
      clear H
      have H := H1
      clear H1
      have H' := Aside0.mk H
      clear H
      go_wp2_with (first | ((with_reducible refine gate_callee (f := 13) rfl ?_); refine goesL_ (some 11) rfl rfl Tryd.func13 (by kernel_rfl) rfl #[.string a0] rfl (by (try simp only [List.map_toArray, List.map_cons, List.map_nil]); first | done | rfl | (simp only [List.length_drop, List.length_take]; rfl)) ?_; (with_reducible refine (tollref02_May.calls k a0 false _ A4.out).mono ?_); rintro e w9 ⟨rfl, hb⟩; refine ⟨_, rfl, ?_⟩; have n0_ := Aside0.mk (below_step (by repeat (first | (with_reducible first | exact HB.out | apply below_alloc | apply pw_below_drewN | apply below_drew1) | exact HB.out)) hb); clear HB; have HB := n0_; clear n0_; (try clear hb); (try clear hb2); (try clear hk); (try clear hi)))
      go_meet
      case rel => exact ⟨_, (true), (by first | rfl | (simp; done) | (simp [*]; done) | (simp [bne_nil_isEmpty, beq_nil_isEmpty]; done) | (simp [*, bne_nil_isEmpty, beq_nil_isEmpty]; done)), H', ⟨by first | omega | exact Nat.le_refl _⟩, ⟨by repeat (first | (with_reducible first | exact HB.out | apply below_alloc | apply pw_below_drewN | apply below_drew1) | exact HB.out)⟩⟩
  case rest =>
    clear HC3
    try clear c1
    try clear c2
    try clear p2
    try clear c5
    obtain ⟨kq, x17_2, rfl, HA, HJ2, HB⟩ := hcut
    cases kq with
    | zero => exact absurd HA.out (by simp [tollref02_Meet.j0])
    | succ kj2 =>
      have H := HA.out
      clear HA
      simp only [tollref02_Meet.j0] at H
      by_cases c10 : x17_2 = true
      · subst c10
        have H1 : (some ((⟨#[]⟩ : ByteArray), false)) = some (r1, r2) := by rw [if_pos rfl] at H; exact H
        clear H
        have H := H1
        clear H1
        simp only [Option.some.injEq, Prod.mk.injEq] at H
        obtain ⟨rfl, rfl⟩ := H
        go_wp2
        go_ret2
        exact ⟨by first | rfl | (simp [errW_none, errW_some] <;> rfl) | (simp [*, errW_none, errW_some] <;> rfl), by repeat (first | (with_reducible first | exact HB.out | apply below_alloc | apply pw_below_drewN | apply below_drew1) | exact HB.out)⟩
      · replace c10 := Bool.eq_false_iff.mpr c10
        subst c10
        have H1 : (if a0.toList = ([] : List UInt8) then (some (a1, true)) else (if a1.toList = ([] : List UInt8) then (tollref02_Meet.j1 kj2 a0 a1 true) else (tollref02_Meet.j1 kj2 a0 a1 (a0.toList == a1.toList)))) = some (r1, r2) := by rw [if_neg (show ¬ (false = true) by decide)] at H; exact H
        clear H
        have H := H1
        clear H1
        by_cases c11 : a0.toList = ([] : List UInt8)
        · rw [if_pos c11] at H
          have c11b0 : (a0.toList == ([] : List UInt8)) = true := beq_iff_eq.mpr c11
          have c11b1 : (a0.toList != ([] : List UInt8)) = false := bne_eq_false_iff_eq.mpr c11
          clear c11
          simp only [Option.some.injEq, Prod.mk.injEq] at H
          obtain ⟨rfl, rfl⟩ := H
          go_wp2
          go_ret2
          exact ⟨by first | rfl | (simp [errW_none, errW_some] <;> rfl) | (simp [*, errW_none, errW_some] <;> rfl), by repeat (first | (with_reducible first | exact HB.out | apply below_alloc | apply pw_below_drewN | apply below_drew1) | exact HB.out)⟩
        · rw [if_neg c11] at H
          have c11b0 : (a0.toList == ([] : List UInt8)) = false := beq_eq_false_iff_ne.mpr c11
          have c11b1 : (a0.toList != ([] : List UInt8)) = true := bne_iff_ne.mpr c11
          have HC12 := Aside0.mk H
          clear H
          go_upto_region 5 with (fail)
          go_cut [27] (fun v27 wc => ∃ (kq : Nat) (x27_11 : Bool), v27 = .bool x27_11 ∧ Aside0 (tollref02_Meet.j1 kq a0 a1 x27_11 = some (r1, r2)) ∧ Aside0 (kq ≤ kj2) ∧ Aside0 (Below w.heap.size w wc))
          case first =>
            have H := HC12.out
            clear HC12
            by_cases c13 : a1.toList = ([] : List UInt8)
            · rw [if_pos c13] at H
              have c13b0 : (a1.toList == ([] : List UInt8)) = true := beq_iff_eq.mpr c13
              have c13b1 : (a1.toList != ([] : List UInt8)) = false := bne_eq_false_iff_eq.mpr c13
              clear c13
              (first | rw [c13b0] | rw [c13b1] | rw [c13b2] | (simp only [i64_w, i32_w]; rw [c13b0]) | skip)
              have H' := Aside0.mk H
              clear H
              go_wp2
              go_meet
              case rel => exact ⟨_, (true), (by first | rfl | (simp; done) | (simp [*]; done) | (simp [bne_nil_isEmpty, beq_nil_isEmpty]; done) | (simp [*, bne_nil_isEmpty, beq_nil_isEmpty]; done)), H', ⟨by have := HJ2.out; first | omega | exact Nat.le_refl _⟩, ⟨by repeat (first | (with_reducible first | exact HB.out | apply below_alloc | apply pw_below_drewN | apply below_drew1) | exact HB.out)⟩⟩
            · rw [if_neg c13] at H
              have c13b0 : (a1.toList == ([] : List UInt8)) = false := beq_eq_false_iff_ne.mpr c13
              have c13b1 : (a1.toList != ([] : List UInt8)) = true := bne_iff_ne.mpr c13
              (first | rw [c13b0] | rw [c13b1] | rw [c13b2] | (simp only [i64_w, i32_w]; rw [c13b0]) | skip)
              have H' := Aside0.mk H
              clear H
              go_wp2
              go_meet
              case rel => exact ⟨_, ((a0.toList == a1.toList)), (by first | rfl | (simp; done) | (simp [*]; done) | (simp [bne_nil_isEmpty, beq_nil_isEmpty]; done) | (simp [*, bne_nil_isEmpty, beq_nil_isEmpty]; done)), H', ⟨by have := HJ2.out; first | omega | exact Nat.le_refl _⟩, ⟨by repeat (first | (with_reducible first | exact HB.out | apply below_alloc | apply pw_below_drewN | apply below_drew1) | exact HB.out)⟩⟩
          case rest =>
            clear HC12
            try clear c1
            try clear c2
            try clear p2
            try clear c5
            try clear c10
            try clear c11
            try clear c11b0
            try clear c11b1
            try clear c13
            try clear c13b0
            try clear c13b1
            try clear c13b2
            try clear p2
            obtain ⟨kq, x27_11, rfl, HA, HJ11, HB⟩ := hcut
            cases kq with
            | zero => exact absurd HA.out (by simp [tollref02_Meet.j1])
            | succ kj11 =>
              have H := HA.out
              clear HA
              simp only [tollref02_Meet.j1] at H
              by_cases c14 : x27_11 = true
              · subst c14
                have H1 : (some (a0, true)) = some (r1, r2) := by rw [if_pos rfl] at H; exact H
                clear H
                have H := H1
                clear H1
                simp only [Option.some.injEq, Prod.mk.injEq] at H
                obtain ⟨rfl, rfl⟩ := H
                go_wp2
                go_ret2
                exact ⟨by first | rfl | (simp [errW_none, errW_some] <;> rfl) | (simp [*, errW_none, errW_some] <;> rfl), by repeat (first | (with_reducible first | exact HB.out | apply below_alloc | apply pw_below_drewN | apply below_drew1) | exact HB.out)⟩
              · replace c14 := Bool.eq_false_iff.mpr c14
                subst c14
                have H1 : ((tollref02_wide.f a0).bind fun bt219 => ((tollref02_wide.f a1).bind fun bt221 => (if bt221.2 = true then ((tollref01_Under.f kj11 bt219.1 bt221.1).bind fun t223 => (tollref02_Meet.j2 kj11 a0 a1 bt219.1 bt219.2 bt221.1 t223)) else (tollref02_Meet.j2 kj11 a0 a1 bt219.1 bt219.2 bt221.1 false)))) = some (r1, r2) := by rw [if_neg (show ¬ (false = true) by decide)] at H; exact H
                clear H
                have H := H1
                clear H1
                replace H := Option.bind_eq_some_iff.mp H
                obtain ⟨⟨t219, t220⟩, A150, H⟩ := H
                replace H : ((tollref02_wide.f a1).bind fun bt221 => (if bt221.2 = true then ((tollref01_Under.f kj11 t219 bt221.1).bind fun t223 => (tollref02_Meet.j2 kj11 a0 a1 t219 t220 bt221.1 t223)) else (tollref02_Meet.j2 kj11 a0 a1 t219 t220 bt221.1 false))) = some (r1, r2) := H
                have A15 := Aside0.mk A150
                clear A150
                replace H := Option.bind_eq_some_iff.mp H
                obtain ⟨⟨t221, t222⟩, A160, H⟩ := H
                replace H : (if t222 = true then ((tollref01_Under.f kj11 t219 t221).bind fun t223 => (tollref02_Meet.j2 kj11 a0 a1 t219 t220 t221 t223)) else (tollref02_Meet.j2 kj11 a0 a1 t219 t220 t221 false)) = some (r1, r2) := H
                have A16 := Aside0.mk A160
                clear A160
                have HC17 := Aside0.mk H
                clear H
                go_upto_region 9 with (first | ((with_reducible refine gate_callee (f := 29) rfl ?_); refine goesL_ (some 31) rfl rfl Tryd.func29 (by kernel_rfl) rfl #[.string a0] rfl (by (try simp only [List.map_toArray, List.map_cons, List.map_nil]); first | done | rfl | (simp only [List.length_drop, List.length_take]; rfl)) ?_; (with_reducible refine (tollref02_wide.calls a0 t219 t220 _ A15.out).mono ?_); rintro e w' ⟨rfl, ⟨nd, rfl⟩⟩; refine ⟨_, rfl, ?_⟩) | ((with_reducible refine gate_callee (f := 29) rfl ?_); refine goesL_ (some 36) rfl rfl Tryd.func29 (by kernel_rfl) rfl #[.string a1] rfl (by (try simp only [List.map_toArray, List.map_cons, List.map_nil]); first | done | rfl | (simp only [List.length_drop, List.length_take]; rfl)) ?_; (with_reducible refine (tollref02_wide.calls a1 t221 t222 _ A16.out).mono ?_); rintro e w' ⟨rfl, ⟨nd, rfl⟩⟩; refine ⟨_, rfl, ?_⟩))
                (try simp only [Act.put, List.setIfInBounds_toArray, List.set_cons_zero, List.set_cons_succ])
                go_cut [44] (fun v44 wc => ∃ (kq : Nat) (x44_16 : Bool), v44 = .bool x44_16 ∧ Aside0 (tollref02_Meet.j2 kq a0 a1 t219 t220 t221 x44_16 = some (r1, r2)) ∧ Aside0 (kq ≤ kj11) ∧ Aside0 (Below w.heap.size w wc))
                case first =>
                  have H := HC17.out
                  clear HC17
                  by_cases c18 : t222 = true
                  · subst c18
                    have H1 : ((tollref01_Under.f kj11 t219 t221).bind fun t223 => (tollref02_Meet.j2 kj11 a0 a1 t219 t220 t221 t223)) = some (r1, r2) := by rw [if_pos rfl] at H; exact H
                    clear H
                    have H := H1
                    clear H1
                    replace H := Option.bind_eq_some_iff.mp H
                    obtain ⟨t223, A190, H⟩ := H
                    replace H : (tollref02_Meet.j2 kj11 a0 a1 t219 t220 t221 t223) = some (r1, r2) := H
                    have A19 := Aside0.mk A190
                    clear A190
                    have H' := Aside0.mk H
                    clear H
                    go_wp2_with (first | (go_at_call 31; (with_reducible refine (tollref01_Under.calls kj11 t219 t221 t223 _ A19.out).mono ?_); rintro e w20 ⟨rfl, hb⟩; have n0_ := Aside0.mk (below_step (by repeat (first | (with_reducible first | exact HB.out | apply below_alloc | apply pw_below_drewN | apply below_drew1) | exact HB.out)) hb); clear HB; have HB := n0_; clear n0_; (try clear hb); (try clear hb2); (try clear hk); (try clear hi)))
                    go_meet
                    case rel => exact ⟨_, (t223), (by first | rfl | (simp; done) | (simp [*]; done) | (simp [bne_nil_isEmpty, beq_nil_isEmpty]; done) | (simp [*, bne_nil_isEmpty, beq_nil_isEmpty]; done)), H', ⟨by have := HJ2.out; have := HJ11.out; first | omega | exact Nat.le_refl _⟩, ⟨by repeat (first | (with_reducible first | exact HB.out | apply below_alloc | apply pw_below_drewN | apply below_drew1) | exact HB.out)⟩⟩
                  · replace c18 := Bool.eq_false_iff.mpr c18
                    subst c18
                    have H1 : (tollref02_Meet.j2 kj11 a0 a1 t219 t220 t221 false) = some (r1, r2) := by rw [if_neg (show ¬ (false = true) by decide)] at H; exact H
                    clear H
                    have H := H1
                    clear H1
                    have H' := Aside0.mk H
                    clear H
                    go_wp2
                    go_meet
                    case rel => exact ⟨_, (false), (by first | rfl | (simp; done) | (simp [*]; done) | (simp [bne_nil_isEmpty, beq_nil_isEmpty]; done) | (simp [*, bne_nil_isEmpty, beq_nil_isEmpty]; done)), H', ⟨by have := HJ2.out; have := HJ11.out; first | omega | exact Nat.le_refl _⟩, ⟨by repeat (first | (with_reducible first | exact HB.out | apply below_alloc | apply pw_below_drewN | apply below_drew1) | exact HB.out)⟩⟩
                case rest =>
                  clear HC17
                  try clear c1
                  try clear c2
                  try clear p2
                  try clear c5
                  try clear c10
                  try clear c11
                  try clear c11b0
                  try clear c11b1
                  try clear c13
                  try clear c13b0
                  try clear c13b1
                  try clear c13b2
                  try clear c14
                  try clear c18
                  try clear c20
                  try clear p2
                  obtain ⟨kq, x44_16, rfl, HA, HJ16, HB⟩ := hcut
                  cases kq with
                  | zero => exact absurd HA.out (by simp [tollref02_Meet.j2])
                  | succ kj16 =>
                    have H := HA.out
                    clear HA
                    simp only [tollref02_Meet.j2] at H
                    by_cases c21 : x44_16 = true
                    · subst c21
                      have H1 : (some (a0, true)) = some (r1, r2) := by rw [if_pos rfl] at H; exact H
                      clear H
                      have H := H1
                      clear H1
                      simp only [Option.some.injEq, Prod.mk.injEq] at H
                      obtain ⟨rfl, rfl⟩ := H
                      go_wp2
                      go_ret2
                      exact ⟨by first | rfl | (simp [errW_none, errW_some] <;> rfl) | (simp [*, errW_none, errW_some] <;> rfl), by repeat (first | (with_reducible first | exact HB.out | apply below_alloc | apply pw_below_drewN | apply below_drew1) | exact HB.out)⟩
                    · replace c21 := Bool.eq_false_iff.mpr c21
                      subst c21
                      have H1 : (if t220 = true then ((tollref01_Under.f kj16 t221 t219).bind fun t224 => (if t224 = true then (some (a1, true)) else (some ((⟨#[]⟩ : ByteArray), false)))) else (some ((⟨#[]⟩ : ByteArray), false))) = some (r1, r2) := by rw [if_neg (show ¬ (false = true) by decide)] at H; exact H
                      clear H
                      have H := H1
                      clear H1
                      by_cases c22 : t220 = true
                      · subst c22
                        have H1 : ((tollref01_Under.f kj16 t221 t219).bind fun t224 => (if t224 = true then (some (a1, true)) else (some ((⟨#[]⟩ : ByteArray), false)))) = some (r1, r2) := by rw [if_pos rfl] at H; exact H
                        clear H
                        have H := H1
                        clear H1
                        replace H := Option.bind_eq_some_iff.mp H
                        obtain ⟨t224, A230, H⟩ := H
                        replace H : (if t224 = true then (some (a1, true)) else (some ((⟨#[]⟩ : ByteArray), false))) = some (r1, r2) := H
                        have A23 := Aside0.mk A230
                        clear A230
                        by_cases c24 : t224 = true
                        · subst c24
                          have H1 : (some (a1, true)) = some (r1, r2) := by rw [if_pos rfl] at H; exact H
                          clear H
                          have H := H1
                          clear H1
                          simp only [Option.some.injEq, Prod.mk.injEq] at H
                          obtain ⟨rfl, rfl⟩ := H
                          go_wp2_with (first | (go_at_call 31; (with_reducible refine (tollref01_Under.calls kj16 t221 t219 true _ A23.out).mono ?_); rintro e w25 ⟨rfl, hb⟩; have n0_ := Aside0.mk (below_step (by repeat (first | (with_reducible first | exact HB.out | apply below_alloc | apply pw_below_drewN | apply below_drew1) | exact HB.out)) hb); clear HB; have HB := n0_; clear n0_; (try clear hb); (try clear hb2); (try clear hk); (try clear hi)))
                          go_ret2
                          exact ⟨by first | rfl | (simp [errW_none, errW_some] <;> rfl) | (simp [*, errW_none, errW_some] <;> rfl), by repeat (first | (with_reducible first | exact HB.out | apply below_alloc | apply pw_below_drewN | apply below_drew1) | exact HB.out)⟩
                        · replace c24 := Bool.eq_false_iff.mpr c24
                          subst c24
                          have H1 : (some ((⟨#[]⟩ : ByteArray), false)) = some (r1, r2) := by rw [if_neg (show ¬ (false = true) by decide)] at H; exact H
                          clear H
                          have H := H1
                          clear H1
                          simp only [Option.some.injEq, Prod.mk.injEq] at H
                          obtain ⟨rfl, rfl⟩ := H
                          go_wp2_with (first | (go_at_call 31; (with_reducible refine (tollref01_Under.calls kj16 t221 t219 false _ A23.out).mono ?_); rintro e w26 ⟨rfl, hb⟩; have n0_ := Aside0.mk (below_step (by repeat (first | (with_reducible first | exact HB.out | apply below_alloc | apply pw_below_drewN | apply below_drew1) | exact HB.out)) hb); clear HB; have HB := n0_; clear n0_; (try clear hb); (try clear hb2); (try clear hk); (try clear hi)))
                          go_ret2
                          exact ⟨by first | rfl | (simp [errW_none, errW_some] <;> rfl) | (simp [*, errW_none, errW_some] <;> rfl), by repeat (first | (with_reducible first | exact HB.out | apply below_alloc | apply pw_below_drewN | apply below_drew1) | exact HB.out)⟩
                      · replace c22 := Bool.eq_false_iff.mpr c22
                        subst c22
                        have H1 : (some ((⟨#[]⟩ : ByteArray), false)) = some (r1, r2) := by rw [if_neg (show ¬ (false = true) by decide)] at H; exact H
                        clear H
                        have H := H1
                        clear H1
                        simp only [Option.some.injEq, Prod.mk.injEq] at H
                        obtain ⟨rfl, rfl⟩ := H
                        go_wp2
                        go_ret2
                        exact ⟨by first | rfl | (simp [errW_none, errW_some] <;> rfl) | (simp [*, errW_none, errW_some] <;> rfl), by repeat (first | (with_reducible first | exact HB.out | apply below_alloc | apply pw_below_drewN | apply below_drew1) | exact HB.out)⟩

/-! ### tollref01_Fold: function 39 -/
def tollref01_Fold.l0 : Nat → ByteArray → ByteArray → Int → Option (ByteArray)
  | 0, _, _, _ => none
  | k + 1, x0, x3, x4 => if x4 < (x0.size : Int) then (if 0 ≤ x4 then (if 65 ≤ (bt x0 x4) then (if (bt x0 x4) ≤ 90 then ((some (([((bt x0 x4) + 32) % 256] : List Int) : List Int)).bind fun y225 => (if x3.size + (strOfNums y225).size ≤ 9223372036854775807 then (tollref01_Fold.l0 k x0 (x3 ++ (strOfNums y225)) (wrap64 (x4 + 1))) else (none))) else ((some (([bt x0 x4] : List Int) : List Int)).bind fun y228 => (if x3.size + (strOfNums y228).size ≤ 9223372036854775807 then (tollref01_Fold.l0 k x0 (x3 ++ (strOfNums y228)) (wrap64 (x4 + 1))) else (none)))) else ((some (([bt x0 x4] : List Int) : List Int)).bind fun y231 => (if x3.size + (strOfNums y231).size ≤ 9223372036854775807 then (tollref01_Fold.l0 k x0 (x3 ++ (strOfNums y231)) (wrap64 (x4 + 1))) else (none)))) else (none)) else (some x3)
def tollref01_Fold.f (k : Nat) (a0 : ByteArray) : Option (ByteArray) := tollref01_Fold.l0 k a0 (⟨#[]⟩ : ByteArray) 0
theorem tollref01_Fold.mono_l : ∀ k, (∀ y0 y1 y2, LeO (tollref01_Fold.l0 k y0 y1 y2) (tollref01_Fold.l0 (k + 1) y0 y1 y2))
  | 0 => fun _ _ _ r h => by simp [tollref01_Fold.l0] at h
  | k + 1 => by
    have ih0 := tollref01_Fold.mono_l k
    · intro y0 y1 y2
      unfold tollref01_Fold.l0
      repeat' first
      | (with_reducible exact ih0 _ _ _)
      | (with_reducible exact LeO.refl _)
      | (with_reducible exact LeO.none _)
      | (with_reducible refine LeO.ite ?_ ?_)
      | (with_reducible refine LeO.bind ?_ (fun _ => ?_))
      | exact ih0 _ _ _
      | exact LeO.none _
      | refine LeO.ite ?_ ?_
      | refine LeO.bind ?_ (fun _ => ?_)
theorem tollref01_Fold.mono : ∀ a0 k, LeO (tollref01_Fold.f k a0) (tollref01_Fold.f (k + 1) a0) := by
  intro a0 k
  have ih0 := tollref01_Fold.mono_l k
  unfold tollref01_Fold.f
  repeat' first
      | (with_reducible exact ih0 _ _ _)
      | (with_reducible exact LeO.refl _)
      | (with_reducible exact LeO.none _)
      | (with_reducible refine LeO.ite ?_ ?_)
      | (with_reducible refine LeO.bind ?_ (fun _ => ?_))
      | exact ih0 _ _ _
      | exact LeO.none _
      | refine LeO.ite ?_ ?_
      | refine LeO.bind ?_ (fun _ => ?_)
set_option maxHeartbeats 8000000 in
set_option maxRecDepth 100000 in
theorem tollref01_Fold.calls (k : Nat) (a0 : ByteArray) (r : ByteArray) (w : World) (h : tollref01_Fold.f k a0 = some r) :
    Calls Tryd.prog 39 #[.string a0] w fun e w' => e = .returned (.string r) ∧ Below w.heap.size w w' := by
  have HB := Aside0.mk (Below.refl w.heap.size w)
  have H : (tollref01_Fold.l0 k a0 (⟨#[]⟩ : ByteArray) 0) = some r := h
  clear h
  have H' := Aside0.mk H
  clear H
  go_enter Tryd.func39, Tryd.ntmps39
  go_wp2
  go_loopg [3, 4] k (fun kq v3 v4 w' => ∃ (x3_1 : ByteArray) (x4_1 : Int), v3 = .string x3_1 ∧ v4 = .int .i64 x4_1 ∧ Aside0 (tollref01_Fold.l0 kq a0 x3_1 x4_1 = some r) ∧ Aside0 (kq ≤ k) ∧ Aside0 (Below w.heap.size w w'))
  case atStart => exact ⟨((⟨#[]⟩ : ByteArray)), (0), (by first | rfl | (simp; done) | (simp [*]; done) | (simp [bne_nil_isEmpty, beq_nil_isEmpty]; done) | (simp [*, bne_nil_isEmpty, beq_nil_isEmpty]; done)), (by first | rfl | (simp; done) | (simp [*]; done) | (simp [bne_nil_isEmpty, beq_nil_isEmpty]; done) | (simp [*, bne_nil_isEmpty, beq_nil_isEmpty]; done)), H', ⟨Nat.le_refl _⟩, ⟨by repeat (first | (with_reducible first | exact HB.out | apply below_alloc | apply pw_below_drewN | apply below_drew1) | exact HB.out)⟩⟩
  case round =>
    clear H'
    obtain ⟨x3_1, x4_1, rfl, rfl, HA, HK1, HB⟩ := hrel
    cases gk with
    | zero => exact absurd HA.out (by simp [tollref01_Fold.l0])
    | succ k1 =>
      have H := HA.out
      clear HA
      simp only [tollref01_Fold.l0] at H
      by_cases c2 : x4_1 < (a0.size : Int)
      · rw [if_pos c2] at H
        have c2b0 : decide (x4_1 < (a0.size : Int)) = true := decide_eq_true c2
        clear c2
        by_cases c3 : 0 ≤ x4_1
        · rw [if_pos c3] at H
          have c3b0 : decide (0 ≤ x4_1) = true := decide_eq_true c3
          clear c3
          by_cases c5 : 65 ≤ (bt a0 x4_1)
          · rw [if_pos c5] at H
            have c5b0 : decide (65 ≤ (bt a0 x4_1)) = true := decide_eq_true c5
            clear c5
            by_cases c6 : (bt a0 x4_1) ≤ 90
            · rw [if_pos c6] at H
              have c6b0 : decide ((bt a0 x4_1) ≤ 90) = true := decide_eq_true c6
              clear c6
              obtain ⟨y225, hy225⟩ : ∃ y_ : List Int, y_ = (([((bt a0 x4_1) + 32) % 256] : List Int)) := ⟨_, rfl⟩
              replace H : (if x3_1.size + (strOfNums y225).size ≤ 9223372036854775807 then (tollref01_Fold.l0 k1 a0 (x3_1 ++ (strOfNums y225)) (wrap64 (x4_1 + 1))) else (none)) = some r := by first | (rw [hy225]; with_reducible exact H) | (have H2_ := (Option.bind_some _ _).symm.trans H; rw [hy225]; with_reducible exact H2_) | (have H2_ := (Option.bind_some _ _).symm.trans H; with_reducible exact H2_) | with_reducible exact H | (rw [hy225]; exact H) | exact H
              have Ny225 := Aside0.mk hy225
              clear hy225
              by_cases c7 : x3_1.size + (strOfNums y225).size ≤ 9223372036854775807
              · rw [if_pos c7] at H
                have c7b0 := eq_true c7
                have c7b1 : decide (x3_1.size + (strOfNums y225).size ≤ 9223372036854775807) = true := decide_eq_true c7
                try have c7b2 : (9223372036854775807 < x3_1.size + (strOfNums y225).size) = False := eq_false (Nat.not_lt.2 c7)
                have H' := Aside0.mk H
                clear H
                have p4 : 0 ≤ (x4_1 : Int) := of_decide_eq_true (by first | (with_reducible assumption) | assumption)
                have q4 : x4_1 < (a0.size : Int) := of_decide_eq_true (by first | (with_reducible assumption) | assumption)
                have hx4 := bt_at a0 x4_1
                replace p4 := eq_true p4
                replace q4 := eq_true q4
                go_wp2_with (first | ((with_reducible refine gate_dst (N := 25) rfl ?_); refine Kd.R_lit (Kd.int .u8) _ 5 ?hg (N := 25) ?hd (xs := ([((bt a0 x4_1) + 32) % 256] : List Int)) (inner := [.int .u8 (((bt a0 x4_1) + 32) % 256)]) (ok := fun _ => True) (okp := fun _ => True) ?hr ?hp (fun _ hk => hk) trivial (Below.refl _ _) (Nat.le_refl _) (by simp) ?_; (case hd => rfl); (case hg => rfl); (case hr => first | (go_simp; done) | (go_simp; rfl)); (case hp => exact (Reps.one (show Kd.M (Kd.int .u8) _ _ _ (((bt a0 x4_1) + 32) % 256) [.int .u8 (((bt a0 x4_1) + 32) % 256)] from rfl) (Reps.none _ _))); intro v226 w8 ho9 hb hg_ hnew_; clear hg_ hnew_; (first | rw [← Ny225.out] at ho9 | (simp only [Int.reduceToNat] at ho9; rw [← Ny225.out] at ho9)); have n0_ := Aside0.mk (Kd.R_lower ho9 (below_size (by repeat (first | (with_reducible first | exact HB.out | apply below_alloc | apply pw_below_drewN | apply below_drew1) | exact HB.out)))); have n1_ := Aside0.mk (below_step (by repeat (first | (with_reducible first | exact HB.out | apply below_alloc | apply pw_below_drewN | apply below_drew1) | exact HB.out)) hb); clear HB; have HO227 := n0_; have HB := n1_; clear n0_ n1_; clear hb ho9; have hcv10 := own_string (P := Tryd.prog) Tryd.underlying31 Tryd.underlying5 Tryd.underlying9 (Kd.own_of_R HO227.out)))
                go_roundg k1
                case measure => have := HK1.out; omega
                case rel => exact ⟨(x3_1 ++ (strOfNums y225)), (wrap64 (x4_1 + 1)), (by first | rfl | (simp; done) | (simp [*]; done) | (simp [bne_nil_isEmpty, beq_nil_isEmpty]; done) | (simp [*, bne_nil_isEmpty, beq_nil_isEmpty]; done)), (by first | rfl | (simp; done) | (simp [*]; done) | (simp [bne_nil_isEmpty, beq_nil_isEmpty]; done) | (simp [*, bne_nil_isEmpty, beq_nil_isEmpty]; done)), H', ⟨by have := HK1.out; omega⟩, ⟨by repeat (first | (with_reducible first | exact HB.out | apply below_alloc | apply pw_below_drewN | apply below_drew1) | exact HB.out)⟩⟩
              · rw [if_neg c7] at H
                exact absurd H (by simp)
            · rw [if_neg c6] at H
              have c6b0 : decide ((bt a0 x4_1) ≤ 90) = false := decide_eq_false c6
              clear c6
              obtain ⟨y228, hy228⟩ : ∃ y_ : List Int, y_ = (([bt a0 x4_1] : List Int)) := ⟨_, rfl⟩
              replace H : (if x3_1.size + (strOfNums y228).size ≤ 9223372036854775807 then (tollref01_Fold.l0 k1 a0 (x3_1 ++ (strOfNums y228)) (wrap64 (x4_1 + 1))) else (none)) = some r := by first | (rw [hy228]; with_reducible exact H) | (have H2_ := (Option.bind_some _ _).symm.trans H; rw [hy228]; with_reducible exact H2_) | (have H2_ := (Option.bind_some _ _).symm.trans H; with_reducible exact H2_) | with_reducible exact H | (rw [hy228]; exact H) | exact H
              have Ny228 := Aside0.mk hy228
              clear hy228
              by_cases c11 : x3_1.size + (strOfNums y228).size ≤ 9223372036854775807
              · rw [if_pos c11] at H
                have c11b0 := eq_true c11
                have c11b1 : decide (x3_1.size + (strOfNums y228).size ≤ 9223372036854775807) = true := decide_eq_true c11
                try have c11b2 : (9223372036854775807 < x3_1.size + (strOfNums y228).size) = False := eq_false (Nat.not_lt.2 c11)
                have H' := Aside0.mk H
                clear H
                have p4 : 0 ≤ (x4_1 : Int) := of_decide_eq_true (by first | (with_reducible assumption) | assumption)
                have q4 : x4_1 < (a0.size : Int) := of_decide_eq_true (by first | (with_reducible assumption) | assumption)
                have hx4 := bt_at a0 x4_1
                replace p4 := eq_true p4
                replace q4 := eq_true q4
                go_wp2_with (first | ((with_reducible refine gate_dst (N := 25) rfl ?_); refine Kd.R_lit (Kd.int .u8) _ 5 ?hg (N := 25) ?hd (xs := ([bt a0 x4_1] : List Int)) (inner := [.int .u8 (bt a0 x4_1)]) (ok := fun _ => True) (okp := fun _ => True) ?hr ?hp (fun _ hk => hk) trivial (Below.refl _ _) (Nat.le_refl _) (by simp) ?_; (case hd => rfl); (case hg => rfl); (case hr => first | (go_simp; done) | (go_simp; rfl)); (case hp => exact (Reps.one (show Kd.M (Kd.int .u8) _ _ _ (bt a0 x4_1) [.int .u8 (bt a0 x4_1)] from rfl) (Reps.none _ _))); intro v229 w12 ho13 hb hg_ hnew_; clear hg_ hnew_; (first | rw [← Ny228.out] at ho13 | (simp only [Int.reduceToNat] at ho13; rw [← Ny228.out] at ho13)); have n0_ := Aside0.mk (Kd.R_lower ho13 (below_size (by repeat (first | (with_reducible first | exact HB.out | apply below_alloc | apply pw_below_drewN | apply below_drew1) | exact HB.out)))); have n1_ := Aside0.mk (below_step (by repeat (first | (with_reducible first | exact HB.out | apply below_alloc | apply pw_below_drewN | apply below_drew1) | exact HB.out)) hb); clear HB; have HO230 := n0_; have HB := n1_; clear n0_ n1_; clear hb ho13; have hcv14 := own_string (P := Tryd.prog) Tryd.underlying31 Tryd.underlying5 Tryd.underlying9 (Kd.own_of_R HO230.out)))
                go_roundg k1
                case measure => have := HK1.out; omega
                case rel => exact ⟨(x3_1 ++ (strOfNums y228)), (wrap64 (x4_1 + 1)), (by first | rfl | (simp; done) | (simp [*]; done) | (simp [bne_nil_isEmpty, beq_nil_isEmpty]; done) | (simp [*, bne_nil_isEmpty, beq_nil_isEmpty]; done)), (by first | rfl | (simp; done) | (simp [*]; done) | (simp [bne_nil_isEmpty, beq_nil_isEmpty]; done) | (simp [*, bne_nil_isEmpty, beq_nil_isEmpty]; done)), H', ⟨by have := HK1.out; omega⟩, ⟨by repeat (first | (with_reducible first | exact HB.out | apply below_alloc | apply pw_below_drewN | apply below_drew1) | exact HB.out)⟩⟩
              · rw [if_neg c11] at H
                exact absurd H (by simp)
          · rw [if_neg c5] at H
            have c5b0 : decide (65 ≤ (bt a0 x4_1)) = false := decide_eq_false c5
            clear c5
            obtain ⟨y231, hy231⟩ : ∃ y_ : List Int, y_ = (([bt a0 x4_1] : List Int)) := ⟨_, rfl⟩
            replace H : (if x3_1.size + (strOfNums y231).size ≤ 9223372036854775807 then (tollref01_Fold.l0 k1 a0 (x3_1 ++ (strOfNums y231)) (wrap64 (x4_1 + 1))) else (none)) = some r := by first | (rw [hy231]; with_reducible exact H) | (have H2_ := (Option.bind_some _ _).symm.trans H; rw [hy231]; with_reducible exact H2_) | (have H2_ := (Option.bind_some _ _).symm.trans H; with_reducible exact H2_) | with_reducible exact H | (rw [hy231]; exact H) | exact H
            have Ny231 := Aside0.mk hy231
            clear hy231
            by_cases c15 : x3_1.size + (strOfNums y231).size ≤ 9223372036854775807
            · rw [if_pos c15] at H
              have c15b0 := eq_true c15
              have c15b1 : decide (x3_1.size + (strOfNums y231).size ≤ 9223372036854775807) = true := decide_eq_true c15
              try have c15b2 : (9223372036854775807 < x3_1.size + (strOfNums y231).size) = False := eq_false (Nat.not_lt.2 c15)
              have H' := Aside0.mk H
              clear H
              have p4 : 0 ≤ (x4_1 : Int) := of_decide_eq_true (by first | (with_reducible assumption) | assumption)
              have q4 : x4_1 < (a0.size : Int) := of_decide_eq_true (by first | (with_reducible assumption) | assumption)
              have hx4 := bt_at a0 x4_1
              replace p4 := eq_true p4
              replace q4 := eq_true q4
              go_wp2_with (first | ((with_reducible refine gate_dst (N := 25) rfl ?_); refine Kd.R_lit (Kd.int .u8) _ 5 ?hg (N := 25) ?hd (xs := ([bt a0 x4_1] : List Int)) (inner := [.int .u8 (bt a0 x4_1)]) (ok := fun _ => True) (okp := fun _ => True) ?hr ?hp (fun _ hk => hk) trivial (Below.refl _ _) (Nat.le_refl _) (by simp) ?_; (case hd => rfl); (case hg => rfl); (case hr => first | (go_simp; done) | (go_simp; rfl)); (case hp => exact (Reps.one (show Kd.M (Kd.int .u8) _ _ _ (bt a0 x4_1) [.int .u8 (bt a0 x4_1)] from rfl) (Reps.none _ _))); intro v232 w16 ho17 hb hg_ hnew_; clear hg_ hnew_; (first | rw [← Ny231.out] at ho17 | (simp only [Int.reduceToNat] at ho17; rw [← Ny231.out] at ho17)); have n0_ := Aside0.mk (Kd.R_lower ho17 (below_size (by repeat (first | (with_reducible first | exact HB.out | apply below_alloc | apply pw_below_drewN | apply below_drew1) | exact HB.out)))); have n1_ := Aside0.mk (below_step (by repeat (first | (with_reducible first | exact HB.out | apply below_alloc | apply pw_below_drewN | apply below_drew1) | exact HB.out)) hb); clear HB; have HO233 := n0_; have HB := n1_; clear n0_ n1_; clear hb ho17; have hcv18 := own_string (P := Tryd.prog) Tryd.underlying31 Tryd.underlying5 Tryd.underlying9 (Kd.own_of_R HO233.out)))
              go_roundg k1
              case measure => have := HK1.out; omega
              case rel => exact ⟨(x3_1 ++ (strOfNums y231)), (wrap64 (x4_1 + 1)), (by first | rfl | (simp; done) | (simp [*]; done) | (simp [bne_nil_isEmpty, beq_nil_isEmpty]; done) | (simp [*, bne_nil_isEmpty, beq_nil_isEmpty]; done)), (by first | rfl | (simp; done) | (simp [*]; done) | (simp [bne_nil_isEmpty, beq_nil_isEmpty]; done) | (simp [*, bne_nil_isEmpty, beq_nil_isEmpty]; done)), H', ⟨by have := HK1.out; omega⟩, ⟨by repeat (first | (with_reducible first | exact HB.out | apply below_alloc | apply pw_below_drewN | apply below_drew1) | exact HB.out)⟩⟩
            · rw [if_neg c15] at H
              exact absurd H (by simp)
        · rw [if_neg c3] at H
          exact absurd H (by simp)
      · rw [if_neg c2] at H
        have c2b0 : decide (x4_1 < (a0.size : Int)) = false := decide_eq_false c2
        clear c2
        obtain rfl := Option.some.inj H
        go_wp2
        go_ret
        exact ⟨by first | rfl | (simp [errW_none, errW_some] <;> rfl) | (simp [*, errW_none, errW_some] <;> rfl), by repeat (first | (with_reducible first | exact HB.out | apply below_alloc | apply pw_below_drewN | apply below_drew1) | exact HB.out)⟩

end Go.Proofs.YtjfjmniegceejaaDoor.P
