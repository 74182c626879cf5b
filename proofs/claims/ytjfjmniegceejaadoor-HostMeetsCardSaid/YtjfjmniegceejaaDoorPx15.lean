-- written by wip/tool/hprint.py of this repo: the kit's print, with contracts by hand joined; Lean checks it.
import Derived.Test.YtjfjmniegceejaaDoorPx0
import Derived.Test.YtjfjmniegceejaaDoorPx2
import Derived.Test.YtjfjmniegceejaaDoorPx6
import Derived.Test.YtjfjmniegceejaaDoorPx7
import Derived.Test.YtjfjmniegceejaaDoorPx12
import Derived.Test.YtjfjmniegceejaaDoorPx13
import Derived.Test.YtjfjmniegceejaaDoorPx14
namespace Go.Proofs.YtjfjmniegceejaaDoor.P
open Go.RowKit Go.Proofs.YtjfjmniegceejaaDoorW.PrintWords Go.Proofs.YtjfjmniegceejaaDoorW.PrintLast Go.Proofs.YtjfjmniegceejaaDoorW.PrintMore
attribute [local go_sem] max2_int min2_int max_two min_two max_three min_three max_four min_four   -- for this text's walks alone
set_option linter.unusedVariables false
set_option linter.unusedSimpArgs false

/-! ### tolllaw02_HostMeets: function 7 -/
def tolllaw02_HostMeets.f (k : Nat) (a0 : ByteArray) (a1 : ByteArray) (a2 : ByteArray) : Option (Bool) := (tolllaw01_Few.f a0).bind fun t263 => ((tolllaw01_Few.f a1).bind fun t264 => ((tolllaw01_Few.f a2).bind fun t265 => ((host_Meet.f k t263 t264).bind fun bt266 => ((tollref02_Meet.f k t263 t264).bind fun bt268 => ((host_Of.f k t265).bind fun bt270 => ((tollref02_Of.f k t265).bind fun bt272 => (if bt266.1.toList = bt268.1.toList then (if (bt266.2 == bt268.2) = true then ((host_Order.f k t263 t264).bind fun t274 => ((tollref02_Order.f k t263 t264).bind fun t275 => (if t274 = t275 then (if bt270.1.toList = bt272.1.toList then (if ((bt270.2 == 0) == bt272.2) = true then (if bt272.2 = true then ((tolllaw02_awake.f k).bind fun t276 => (some t276)) else (if bt270.2 = 2 then ((tolllaw02_awake.f k).bind fun t277 => (some t277)) else (none))) else (none)) else (none)) else (none)))) else (none)) else (none))))))))
theorem tolllaw02_HostMeets.mono : ∀ a0 a1 a2 k, LeO (tolllaw02_HostMeets.f k a0 a1 a2) (tolllaw02_HostMeets.f (k + 1) a0 a1 a2) := by
  intro a0 a1 a2 k
  unfold tolllaw02_HostMeets.f
  repeat' first
      | (with_reducible exact host_Meet.mono _ _ _)
      | (with_reducible exact host_Of.mono _ _)
      | (with_reducible exact host_Order.mono _ _ _)
      | (with_reducible exact tolllaw02_awake.mono _)
      | (with_reducible exact tollref02_Meet.mono _ _ _)
      | (with_reducible exact tollref02_Of.mono _ _)
      | (with_reducible exact tollref02_Order.mono _ _ _)
      | (with_reducible exact LeO.refl _)
      | (with_reducible exact LeO.none _)
      | (with_reducible refine LeO.ite ?_ ?_)
      | (with_reducible refine LeO.bind ?_ (fun _ => ?_))
      | exact host_Meet.mono _ _ _
      | exact host_Of.mono _ _
      | exact host_Order.mono _ _ _
      | exact tolllaw02_awake.mono _
      | exact tollref02_Meet.mono _ _ _
      | exact tollref02_Of.mono _ _
      | exact tollref02_Order.mono _ _ _
      | exact LeO.none _
      | refine LeO.ite ?_ ?_
      | refine LeO.bind ?_ (fun _ => ?_)
set_option maxHeartbeats 8000000 in
set_option maxRecDepth 100000 in
theorem tolllaw02_HostMeets.calls (k : Nat) (a0 : ByteArray) (a1 : ByteArray) (a2 : ByteArray) (r : Bool) (w : World) (h : tolllaw02_HostMeets.f k a0 a1 a2 = some r) :
    Calls Tryd.prog 7 #[.string a0, .string a1, .string a2] w fun e w' => e = .returned (.bool r) ∧ Below w.heap.size w w' := by
  have HB := Aside0.mk (Below.refl w.heap.size w)
  have H : ((tolllaw01_Few.f a0).bind fun t263 => ((tolllaw01_Few.f a1).bind fun t264 => ((tolllaw01_Few.f a2).bind fun t265 => ((host_Meet.f k t263 t264).bind fun bt266 => ((tollref02_Meet.f k t263 t264).bind fun bt268 => ((host_Of.f k t265).bind fun bt270 => ((tollref02_Of.f k t265).bind fun bt272 => (if bt266.1.toList = bt268.1.toList then (if (bt266.2 == bt268.2) = true then ((host_Order.f k t263 t264).bind fun t274 => ((tollref02_Order.f k t263 t264).bind fun t275 => (if t274 = t275 then (if bt270.1.toList = bt272.1.toList then (if ((bt270.2 == 0) == bt272.2) = true then (if bt272.2 = true then ((tolllaw02_awake.f k).bind fun t276 => (some t276)) else (if bt270.2 = 2 then ((tolllaw02_awake.f k).bind fun t277 => (some t277)) else (none))) else (none)) else (none)) else (none)))) else (none)) else (none))))))))) = some r := h
  clear h
  replace H := Option.bind_eq_some_iff.mp H
  obtain ⟨t263, A40, H⟩ := H
  replace H : ((tolllaw01_Few.f a1).bind fun t264 => ((tolllaw01_Few.f a2).bind fun t265 => ((host_Meet.f k t263 t264).bind fun bt266 => ((tollref02_Meet.f k t263 t264).bind fun bt268 => ((host_Of.f k t265).bind fun bt270 => ((tollref02_Of.f k t265).bind fun bt272 => (if bt266.1.toList = bt268.1.toList then (if (bt266.2 == bt268.2) = true then ((host_Order.f k t263 t264).bind fun t274 => ((tollref02_Order.f k t263 t264).bind fun t275 => (if t274 = t275 then (if bt270.1.toList = bt272.1.toList then (if ((bt270.2 == 0) == bt272.2) = true then (if bt272.2 = true then ((tolllaw02_awake.f k).bind fun t276 => (some t276)) else (if bt270.2 = 2 then ((tolllaw02_awake.f k).bind fun t277 => (some t277)) else (none))) else (none)) else (none)) else (none)))) else (none)) else (none)))))))) = some r := H
  have A4 := Aside0.mk A40
  clear A40
  replace H := Option.bind_eq_some_iff.mp H
  obtain ⟨t264, A50, H⟩ := H
  replace H : ((tolllaw01_Few.f a2).bind fun t265 => ((host_Meet.f k t263 t264).bind fun bt266 => ((tollref02_Meet.f k t263 t264).bind fun bt268 => ((host_Of.f k t265).bind fun bt270 => ((tollref02_Of.f k t265).bind fun bt272 => (if bt266.1.toList = bt268.1.toList then (if (bt266.2 == bt268.2) = true then ((host_Order.f k t263 t264).bind fun t274 => ((tollref02_Order.f k t263 t264).bind fun t275 => (if t274 = t275 then (if bt270.1.toList = bt272.1.toList then (if ((bt270.2 == 0) == bt272.2) = true then (if bt272.2 = true then ((tolllaw02_awake.f k).bind fun t276 => (some t276)) else (if bt270.2 = 2 then ((tolllaw02_awake.f k).bind fun t277 => (some t277)) else (none))) else (none)) else (none)) else (none)))) else (none)) else (none))))))) = some r := H
  have A5 := Aside0.mk A50
  clear A50
  replace H := Option.bind_eq_some_iff.mp H
  obtain ⟨t265, A60, H⟩ := H
  replace H : ((host_Meet.f k t263 t264).bind fun bt266 => ((tollref02_Meet.f k t263 t264).bind fun bt268 => ((host_Of.f k t265).bind fun bt270 => ((tollref02_Of.f k t265).bind fun bt272 => (if bt266.1.toList = bt268.1.toList then (if (bt266.2 == bt268.2) = true then ((host_Order.f k t263 t264).bind fun t274 => ((tollref02_Order.f k t263 t264).bind fun t275 => (if t274 = t275 then (if bt270.1.toList = bt272.1.toList then (if ((bt270.2 == 0) == bt272.2) = true then (if bt272.2 = true then ((tolllaw02_awake.f k).bind fun t276 => (some t276)) else (if bt270.2 = 2 then ((tolllaw02_awake.f k).bind fun t277 => (some t277)) else (none))) else (none)) else (none)) else (none)))) else (none)) else (none)))))) = some r := H
  have A6 := Aside0.mk A60
  clear A60
  replace H := Option.bind_eq_some_iff.mp H
  obtain ⟨⟨t266, t267⟩, A70, H⟩ := H
  replace H : ((tollref02_Meet.f k t263 t264).bind fun bt268 => ((host_Of.f k t265).bind fun bt270 => ((tollref02_Of.f k t265).bind fun bt272 => (if t266.toList = bt268.1.toList then (if (t267 == bt268.2) = true then ((host_Order.f k t263 t264).bind fun t274 => ((tollref02_Order.f k t263 t264).bind fun t275 => (if t274 = t275 then (if bt270.1.toList = bt272.1.toList then (if ((bt270.2 == 0) == bt272.2) = true then (if bt272.2 = true then ((tolllaw02_awake.f k).bind fun t276 => (some t276)) else (if bt270.2 = 2 then ((tolllaw02_awake.f k).bind fun t277 => (some t277)) else (none))) else (none)) else (none)) else (none)))) else (none)) else (none))))) = some r := H
  have A7 := Aside0.mk A70
  clear A70
  replace H := Option.bind_eq_some_iff.mp H
  obtain ⟨⟨t268, t269⟩, A80, H⟩ := H
  replace H : ((host_Of.f k t265).bind fun bt270 => ((tollref02_Of.f k t265).bind fun bt272 => (if t266.toList = t268.toList then (if (t267 == t269) = true then ((host_Order.f k t263 t264).bind fun t274 => ((tollref02_Order.f k t263 t264).bind fun t275 => (if t274 = t275 then (if bt270.1.toList = bt272.1.toList then (if ((bt270.2 == 0) == bt272.2) = true then (if bt272.2 = true then ((tolllaw02_awake.f k).bind fun t276 => (some t276)) else (if bt270.2 = 2 then ((tolllaw02_awake.f k).bind fun t277 => (some t277)) else (none))) else (none)) else (none)) else (none)))) else (none)) else (none)))) = some r := H
  have A8 := Aside0.mk A80
  clear A80
  replace H := Option.bind_eq_some_iff.mp H
  obtain ⟨⟨t270, t271⟩, A90, H⟩ := H
  replace H : ((tollref02_Of.f k t265).bind fun bt272 => (if t266.toList = t268.toList then (if (t267 == t269) = true then ((host_Order.f k t263 t264).bind fun t274 => ((tollref02_Order.f k t263 t264).bind fun t275 => (if t274 = t275 then (if t270.toList = bt272.1.toList then (if ((t271 == 0) == bt272.2) = true then (if bt272.2 = true then ((tolllaw02_awake.f k).bind fun t276 => (some t276)) else (if t271 = 2 then ((tolllaw02_awake.f k).bind fun t277 => (some t277)) else (none))) else (none)) else (none)) else (none)))) else (none)) else (none))) = some r := H
  have A9 := Aside0.mk A90
  clear A90
  replace H := Option.bind_eq_some_iff.mp H
  obtain ⟨⟨t272, t273⟩, A100, H⟩ := H
  replace H : (if t266.toList = t268.toList then (if (t267 == t269) = true then ((host_Order.f k t263 t264).bind fun t274 => ((tollref02_Order.f k t263 t264).bind fun t275 => (if t274 = t275 then (if t270.toList = t272.toList then (if ((t271 == 0) == t273) = true then (if t273 = true then ((tolllaw02_awake.f k).bind fun t276 => (some t276)) else (if t271 = 2 then ((tolllaw02_awake.f k).bind fun t277 => (some t277)) else (none))) else (none)) else (none)) else (none)))) else (none)) else (none)) = some r := H
  have A10 := Aside0.mk A100
  clear A100
  by_cases c11 : t266.toList = t268.toList
  · rw [if_pos c11] at H
    have c11b0 : (t266.toList == t268.toList) = true := beq_iff_eq.mpr c11
    have c11b1 : (t266.toList != t268.toList) = false := bne_eq_false_iff_eq.mpr c11
    clear c11
    by_cases c12 : (t267 == t269) = true
    · rw [if_pos c12] at H
      have c12b0 : (t267 == t269) = true := c12
      (try (have c12b1 : decide (t267 = t269) = true := by simpa using c12))
      (try (have c12b2 : (t267 == t269) = true := by simpa using c12))
      clear c12
      replace H := Option.bind_eq_some_iff.mp H
      obtain ⟨t274, A130, H⟩ := H
      replace H : ((tollref02_Order.f k t263 t264).bind fun t275 => (if t274 = t275 then (if t270.toList = t272.toList then (if ((t271 == 0) == t273) = true then (if t273 = true then ((tolllaw02_awake.f k).bind fun t276 => (some t276)) else (if t271 = 2 then ((tolllaw02_awake.f k).bind fun t277 => (some t277)) else (none))) else (none)) else (none)) else (none))) = some r := H
      have A13 := Aside0.mk A130
      clear A130
      replace H := Option.bind_eq_some_iff.mp H
      obtain ⟨t275, A140, H⟩ := H
      replace H : (if t274 = t275 then (if t270.toList = t272.toList then (if ((t271 == 0) == t273) = true then (if t273 = true then ((tolllaw02_awake.f k).bind fun t276 => (some t276)) else (if t271 = 2 then ((tolllaw02_awake.f k).bind fun t277 => (some t277)) else (none))) else (none)) else (none)) else (none)) = some r := H
      have A14 := Aside0.mk A140
      clear A140
      by_cases c15 : t274 = t275
      · rw [if_pos c15] at H
        have c15b0 : (t274 == t275) = true := beq_iff_eq.mpr c15
        have c15b1 : (t274 != t275) = false := bne_eq_false_iff_eq.mpr c15
        clear c15
        by_cases c16 : t270.toList = t272.toList
        · rw [if_pos c16] at H
          have c16b0 : (t270.toList == t272.toList) = true := beq_iff_eq.mpr c16
          have c16b1 : (t270.toList != t272.toList) = false := bne_eq_false_iff_eq.mpr c16
          clear c16
          by_cases c17 : ((t271 == 0) == t273) = true
          · rw [if_pos c17] at H
            have c17b0 : ((t271 == 0) == t273) = true := c17
            (try (have c17b1 : decide ((t271 == 0) = t273) = true := by simpa using c17))
            (try (have c17b2 : ((t271 == 0) == t273) = true := by simpa using c17))
            clear c17
            by_cases c18 : t273 = true
            · subst c18
              have H1 : ((tolllaw02_awake.f k).bind fun t276 => (some t276)) = some r := by rw [if_pos rfl] at H; exact H
              clear H
              have H := H1
              clear H1
              replace H := Option.bind_eq_some_iff.mp H
              obtain ⟨t276, A190, H⟩ := H
              replace H : (some t276) = some r := H
              have A19 := Aside0.mk A190
              clear A190
              obtain rfl := Option.some.inj H
              go_enter Tryd.func7, Tryd.ntmps7
              go_wp2_with (first | ((with_reducible refine gate_callee (f := 11) rfl ?_); refine goesL_ (some 16) rfl rfl Tryd.func11 (by kernel_rfl) rfl #[.string a0] rfl (by (try simp only [List.map_toArray, List.map_cons, List.map_nil]); first | done | rfl | (simp only [List.length_drop, List.length_take]; rfl)) ?_; (with_reducible refine (tolllaw01_Few.calls a0 t263 _ A4.out).mono ?_); rintro e w' ⟨rfl, ⟨nd, rfl⟩⟩; refine ⟨_, rfl, ?_⟩) | ((with_reducible refine gate_callee (f := 11) rfl ?_); refine goesL_ (some 18) rfl rfl Tryd.func11 (by kernel_rfl) rfl #[.string a1] rfl (by (try simp only [List.map_toArray, List.map_cons, List.map_nil]); first | done | rfl | (simp only [List.length_drop, List.length_take]; rfl)) ?_; (with_reducible refine (tolllaw01_Few.calls a1 t264 _ A5.out).mono ?_); rintro e w' ⟨rfl, ⟨nd, rfl⟩⟩; refine ⟨_, rfl, ?_⟩) | ((with_reducible refine gate_callee (f := 11) rfl ?_); refine goesL_ (some 20) rfl rfl Tryd.func11 (by kernel_rfl) rfl #[.string a2] rfl (by (try simp only [List.map_toArray, List.map_cons, List.map_nil]); first | done | rfl | (simp only [List.length_drop, List.length_take]; rfl)) ?_; (with_reducible refine (tolllaw01_Few.calls a2 t265 _ A6.out).mono ?_); rintro e w' ⟨rfl, ⟨nd, rfl⟩⟩; refine ⟨_, rfl, ?_⟩) | ((with_reducible refine gate_callee (f := 17) rfl ?_); refine goesL_ (some 24) rfl rfl Tryd.func17 (by kernel_rfl) rfl #[.string t263, .string t264] rfl (by (try simp only [List.map_toArray, List.map_cons, List.map_nil]); first | done | rfl | (simp only [List.length_drop, List.length_take]; rfl)) ?_; (with_reducible refine (host_Meet.calls k t263 t264 t266 t267 _ A7.out).mono ?_); rintro e w20 ⟨rfl, hb⟩; refine ⟨_, rfl, ?_⟩; have n0_ := Aside0.mk (below_step (by repeat (first | (with_reducible first | exact HB.out | apply below_alloc | apply pw_below_drewN | apply below_drew1) | exact HB.out)) hb); clear HB; have HB := n0_; clear n0_; (try clear hb); (try clear hb2); (try clear hk); (try clear hi)) | ((with_reducible refine gate_callee (f := 20) rfl ?_); refine goesL_ (some 30) rfl rfl Tryd.func20 (by kernel_rfl) rfl #[.string t263, .string t264] rfl (by (try simp only [List.map_toArray, List.map_cons, List.map_nil]); first | done | rfl | (simp only [List.length_drop, List.length_take]; rfl)) ?_; (with_reducible refine (tollref02_Meet.calls k t263 t264 t268 t269 _ A8.out).mono ?_); rintro e w21 ⟨rfl, hb⟩; refine ⟨_, rfl, ?_⟩; have n0_ := Aside0.mk (below_step (by repeat (first | (with_reducible first | exact HB.out | apply below_alloc | apply pw_below_drewN | apply below_drew1) | exact HB.out)) hb); clear HB; have HB := n0_; clear n0_; (try clear hb); (try clear hb2); (try clear hk); (try clear hi)) | ((with_reducible refine gate_callee (f := 19) rfl ?_); refine goesL_ (some 35) rfl rfl Tryd.func19 (by kernel_rfl) rfl #[.string t265] rfl (by (try simp only [List.map_toArray, List.map_cons, List.map_nil]); first | done | rfl | (simp only [List.length_drop, List.length_take]; rfl)) ?_; (with_reducible refine (host_Of.calls k t265 t270 t271 _ A9.out).mono ?_); rintro e w22 ⟨rfl, hb⟩; refine ⟨_, rfl, ?_⟩; have n0_ := Aside0.mk (below_step (by repeat (first | (with_reducible first | exact HB.out | apply below_alloc | apply pw_below_drewN | apply below_drew1) | exact HB.out)) hb); clear HB; have HB := n0_; clear n0_; (try clear hb); (try clear hb2); (try clear hk); (try clear hi)) | ((with_reducible refine gate_callee (f := 21) rfl ?_); refine goesL_ (some 40) rfl rfl Tryd.func21 (by kernel_rfl) rfl #[.string t265] rfl (by (try simp only [List.map_toArray, List.map_cons, List.map_nil]); first | done | rfl | (simp only [List.length_drop, List.length_take]; rfl)) ?_; (with_reducible refine (tollref02_Of.calls k t265 t272 true _ A10.out).mono ?_); rintro e w23 ⟨rfl, hb⟩; refine ⟨_, rfl, ?_⟩; have n0_ := Aside0.mk (below_step (by repeat (first | (with_reducible first | exact HB.out | apply below_alloc | apply pw_below_drewN | apply below_drew1) | exact HB.out)) hb); clear HB; have HB := n0_; clear n0_; (try clear hb); (try clear hb2); (try clear hk); (try clear hi)) | (go_at_call 22; (with_reducible refine (host_Order.calls k t263 t264 t274 _ A13.out).mono ?_); rintro e w24 ⟨rfl, hb⟩; have n0_ := Aside0.mk (below_step (by repeat (first | (with_reducible first | exact HB.out | apply below_alloc | apply pw_below_drewN | apply below_drew1) | exact HB.out)) hb); clear HB; have HB := n0_; clear n0_; (try clear hb); (try clear hb2); (try clear hk); (try clear hi)) | (go_at_call 23; (with_reducible refine (tollref02_Order.calls k t263 t264 t275 _ A14.out).mono ?_); rintro e w' ⟨rfl, ⟨nd, rfl⟩⟩) | (go_at_call 16; (with_reducible refine (tolllaw02_awake.calls k  t276 _ A19.out).mono ?_); rintro e w25 ⟨rfl, hb⟩; have n0_ := Aside0.mk (below_step (by repeat (first | (with_reducible first | exact HB.out | apply below_alloc | apply pw_below_drewN | apply below_drew1) | exact HB.out)) hb); clear HB; have HB := n0_; clear n0_; (try clear hb); (try clear hb2); (try clear hk); (try clear hi)))
              go_ret
              exact ⟨by first | rfl | (simp [errW_none, errW_some] <;> rfl) | (simp [*, errW_none, errW_some] <;> rfl), by repeat (first | (with_reducible first | exact HB.out | apply below_alloc | apply pw_below_drewN | apply below_drew1) | exact HB.out)⟩
            · replace c18 := Bool.eq_false_iff.mpr c18
              subst c18
              have H1 : (if t271 = 2 then ((tolllaw02_awake.f k).bind fun t277 => (some t277)) else (none)) = some r := by rw [if_neg (show ¬ (false = true) by decide)] at H; exact H
              clear H
              have H := H1
              clear H1
              by_cases c26 : t271 = 2
              · rw [if_pos c26] at H
                have c26b0 : (t271 == 2) = true := beq_iff_eq.mpr c26
                have c26b1 : (t271 != 2) = false := bne_eq_false_iff_eq.mpr c26
                clear c26
                replace H := Option.bind_eq_some_iff.mp H
                obtain ⟨t277, A270, H⟩ := H
                replace H : (some t277) = some r := H
                have A27 := Aside0.mk A270
                clear A270
                obtain rfl := Option.some.inj H
                go_enter Tryd.func7, Tryd.ntmps7
                go_wp2_with (first | ((with_reducible refine gate_callee (f := 11) rfl ?_); refine goesL_ (some 16) rfl rfl Tryd.func11 (by kernel_rfl) rfl #[.string a0] rfl (by (try simp only [List.map_toArray, List.map_cons, List.map_nil]); first | done | rfl | (simp only [List.length_drop, List.length_take]; rfl)) ?_; (with_reducible refine (tolllaw01_Few.calls a0 t263 _ A4.out).mono ?_); rintro e w' ⟨rfl, ⟨nd, rfl⟩⟩; refine ⟨_, rfl, ?_⟩) | ((with_reducible refine gate_callee (f := 11) rfl ?_); refine goesL_ (some 18) rfl rfl Tryd.func11 (by kernel_rfl) rfl #[.string a1] rfl (by (try simp only [List.map_toArray, List.map_cons, List.map_nil]); first | done | rfl | (simp only [List.length_drop, List.length_take]; rfl)) ?_; (with_reducible refine (tolllaw01_Few.calls a1 t264 _ A5.out).mono ?_); rintro e w' ⟨rfl, ⟨nd, rfl⟩⟩; refine ⟨_, rfl, ?_⟩) | ((with_reducible refine gate_callee (f := 11) rfl ?_); refine goesL_ (some 20) rfl rfl Tryd.func11 (by kernel_rfl) rfl #[.string a2] rfl (by (try simp only [List.map_toArray, List.map_cons, List.map_nil]); first | done | rfl | (simp only [List.length_drop, List.length_take]; rfl)) ?_; (with_reducible refine (tolllaw01_Few.calls a2 t265 _ A6.out).mono ?_); rintro e w' ⟨rfl, ⟨nd, rfl⟩⟩; refine ⟨_, rfl, ?_⟩) | ((with_reducible refine gate_callee (f := 17) rfl ?_); refine goesL_ (some 24) rfl rfl Tryd.func17 (by kernel_rfl) rfl #[.string t263, .string t264] rfl (by (try simp only [List.map_toArray, List.map_cons, List.map_nil]); first | done | rfl | (simp only [List.length_drop, List.length_take]; rfl)) ?_; (with_reducible refine (host_Meet.calls k t263 t264 t266 t267 _ A7.out).mono ?_); rintro e w28 ⟨rfl, hb⟩; refine ⟨_, rfl, ?_⟩; have n0_ := Aside0.mk (below_step (by repeat (first | (with_reducible first | exact HB.out | apply below_alloc | apply pw_below_drewN | apply below_drew1) | exact HB.out)) hb); clear HB; have HB := n0_; clear n0_; (try clear hb); (try clear hb2); (try clear hk); (try clear hi)) | ((with_reducible refine gate_callee (f := 20) rfl ?_); refine goesL_ (some 30) rfl rfl Tryd.func20 (by kernel_rfl) rfl #[.string t263, .string t264] rfl (by (try simp only [List.map_toArray, List.map_cons, List.map_nil]); first | done | rfl | (simp only [List.length_drop, List.length_take]; rfl)) ?_; (with_reducible refine (tollref02_Meet.calls k t263 t264 t268 t269 _ A8.out).mono ?_); rintro e w29 ⟨rfl, hb⟩; refine ⟨_, rfl, ?_⟩; have n0_ := Aside0.mk (below_step (by repeat (first | (with_reducible first | exact HB.out | apply below_alloc | apply pw_below_drewN | apply below_drew1) | exact HB.out)) hb); clear HB; have HB := n0_; clear n0_; (try clear hb); (try clear hb2); (try clear hk); (try clear hi)) | ((with_reducible refine gate_callee (f := 19) rfl ?_); refine goesL_ (some 35) rfl rfl Tryd.func19 (by kernel_rfl) rfl #[.string t265] rfl (by (try simp only [List.map_toArray, List.map_cons, List.map_nil]); first | done | rfl | (simp only [List.length_drop, List.length_take]; rfl)) ?_; (with_reducible refine (host_Of.calls k t265 t270 t271 _ A9.out).mono ?_); rintro e w30 ⟨rfl, hb⟩; refine ⟨_, rfl, ?_⟩; have n0_ := Aside0.mk (below_step (by repeat (first | (with_reducible first | exact HB.out | apply below_alloc | apply pw_below_drewN | apply below_drew1) | exact HB.out)) hb); clear HB; have HB := n0_; clear n0_; (try clear hb); (try clear hb2); (try clear hk); (try clear hi)) | ((with_reducible refine gate_callee (f := 21) rfl ?_); refine goesL_ (some 40) rfl rfl Tryd.func21 (by kernel_rfl) rfl #[.string t265] rfl (by (try simp only [List.map_toArray, List.map_cons, List.map_nil]); first | done | rfl | (simp only [List.length_drop, List.length_take]; rfl)) ?_; (with_reducible refine (tollref02_Of.calls k t265 t272 false _ A10.out).mono ?_); rintro e w31 ⟨rfl, hb⟩; refine ⟨_, rfl, ?_⟩; have n0_ := Aside0.mk (below_step (by repeat (first | (with_reducible first | exact HB.out | apply below_alloc | apply pw_below_drewN | apply below_drew1) | exact HB.out)) hb); clear HB; have HB := n0_; clear n0_; (try clear hb); (try clear hb2); (try clear hk); (try clear hi)) | (go_at_call 22; (with_reducible refine (host_Order.calls k t263 t264 t274 _ A13.out).mono ?_); rintro e w32 ⟨rfl, hb⟩; have n0_ := Aside0.mk (below_step (by repeat (first | (with_reducible first | exact HB.out | apply below_alloc | apply pw_below_drewN | apply below_drew1) | exact HB.out)) hb); clear HB; have HB := n0_; clear n0_; (try clear hb); (try clear hb2); (try clear hk); (try clear hi)) | (go_at_call 23; (with_reducible refine (tollref02_Order.calls k t263 t264 t275 _ A14.out).mono ?_); rintro e w' ⟨rfl, ⟨nd, rfl⟩⟩) | (go_at_call 16; (with_reducible refine (tolllaw02_awake.calls k  t277 _ A27.out).mono ?_); rintro e w33 ⟨rfl, hb⟩; have n0_ := Aside0.mk (below_step (by repeat (first | (with_reducible first | exact HB.out | apply below_alloc | apply pw_below_drewN | apply below_drew1) | exact HB.out)) hb); clear HB; have HB := n0_; clear n0_; (try clear hb); (try clear hb2); (try clear hk); (try clear hi)))
                go_ret
                exact ⟨by first | rfl | (simp [errW_none, errW_some] <;> rfl) | (simp [*, errW_none, errW_some] <;> rfl), by repeat (first | (with_reducible first | exact HB.out | apply below_alloc | apply pw_below_drewN | apply below_drew1) | exact HB.out)⟩
              · rw [if_neg c26] at H
                exact absurd H (by simp)
          · rw [if_neg c17] at H
            exact absurd H (by simp)
        · rw [if_neg c16] at H
          exact absurd H (by simp)
      · rw [if_neg c15] at H
        exact absurd H (by simp)
    · rw [if_neg c12] at H
      exact absurd H (by simp)
  · rw [if_neg c11] at H
    exact absurd H (by simp)

/-- THE ONE PURE STATEMENT of tolllaw02_HostMeets: yours. -/
def tolllaw02_HostMeets.Pure : Prop := ∀ (a0 : ByteArray) (a1 : ByteArray) (a2 : ByteArray), a0.size ≤ 140737488351232 → a1.size ≤ 140737488351232 → a2.size ≤ 140737488351232 → ∃ k, tolllaw02_HostMeets.f k a0 a1 a2 = some true
theorem tolllaw02_HostMeets.walk (P : tolllaw02_HostMeets.Pure) (a0 : ByteArray) (a1 : ByteArray) (a2 : ByteArray) (w : World) (w0 : a0.size ≤ 140737488351232) (w1 : a1.size ≤ 140737488351232) (w2 : a2.size ≤ 140737488351232) :
    Calls Tryd.prog 7 #[.string a0, .string a1, .string a2] w fun e w' => e = .returned (.bool true) ∧ Below w.heap.size w w' := by
  obtain ⟨k, h⟩ := P a0 a1 a2 w0 w1 w2
  refine (tolllaw02_HostMeets.calls k a0 a1 a2 true w h).mono ?_
  rintro e w' ⟨rfl, hd⟩
  exact ⟨rfl, hd⟩

end Go.Proofs.YtjfjmniegceejaaDoor.P
