-- written by wip/tool/hprint.py of this repo: the kit's print, with contracts by hand joined; Lean checks it.
import Derived.Test.YtjfjmniegceejaaDoorPx0
import Derived.Test.YtjfjmniegceejaaDoorPx2
import Derived.Test.YtjfjmniegceejaaDoorPx5
import Derived.Test.YtjfjmniegceejaaDoorPx6
import Derived.Test.YtjfjmniegceejaaDoorPx8
import Derived.Test.YtjfjmniegceejaaDoorPx11
namespace Go.Proofs.YtjfjmniegceejaaDoor.P
open Go.RowKit Go.Proofs.YtjfjmniegceejaaDoorW.PrintWords Go.Proofs.YtjfjmniegceejaaDoorW.PrintLast Go.Proofs.YtjfjmniegceejaaDoorW.PrintMore
attribute [local go_sem] max2_int min2_int max_two min_two max_three min_three max_four min_four   -- for this text's walks alone
set_option linter.unusedVariables false
set_option linter.unusedSimpArgs false

/-! ### tolllaw02_HostOrders: function 8 -/
def tolllaw02_HostOrders.j0 : Nat → ByteArray → ByteArray → Int → Bool → Option (Bool)
  | 0, _, _, _, _ => none
  | k + 1, x0, x1, x7, x64 => if x64 = true then (none) else ((host_Meet.f k x0 x1).bind fun bt287 => (if bt287.2 = true then (if bt287.1.toList = x0.toList then (if x0.toList = x1.toList then ((tolllaw02_awake.f k).bind fun t289 => (some t289)) else (if x7 < 0 then ((tolllaw02_awake.f k).bind fun t290 => (some t290)) else (none))) else ((tolllaw02_awake.f k).bind fun t291 => (some t291))) else ((tolllaw02_awake.f k).bind fun t292 => (some t292))))
def tolllaw02_HostOrders.f (k : Nat) (a0 : ByteArray) (a1 : ByteArray) (a2 : ByteArray) : Option (Bool) := (tolllaw01_Few.f a0).bind fun t280 => ((tolllaw01_Few.f a1).bind fun t281 => ((tolllaw01_Few.f a2).bind fun t282 => ((host_Order.f k t280 t281).bind fun t283 => ((host_Order.f k t281 t282).bind fun t284 => ((host_Order.f k t280 t282).bind fun t285 => ((host_Order.f k t281 t280).bind fun t286 => (if t286 = (wrap64 (-t283)) then (if ((t283 == 0) != (t280.toList == t281.toList)) = true then (none) else (if t283 ≤ 0 then (if t284 ≤ 0 then (if t285 > 0 then (none) else (if t283 < 0 then (tolllaw02_HostOrders.j0 k t280 t281 t283 (decide (t285 ≥ 0))) else (tolllaw02_HostOrders.j0 k t280 t281 t283 false))) else (if t283 < 0 then (tolllaw02_HostOrders.j0 k t280 t281 t283 false) else (tolllaw02_HostOrders.j0 k t280 t281 t283 false))) else (if t283 < 0 then (if t284 ≤ 0 then (tolllaw02_HostOrders.j0 k t280 t281 t283 (decide (t285 ≥ 0))) else (tolllaw02_HostOrders.j0 k t280 t281 t283 false)) else (tolllaw02_HostOrders.j0 k t280 t281 t283 false)))) else (none))))))))
theorem tolllaw02_HostOrders.mono_l : ∀ k, (∀ y0 y1 y2 y3, LeO (tolllaw02_HostOrders.j0 k y0 y1 y2 y3) (tolllaw02_HostOrders.j0 (k + 1) y0 y1 y2 y3))
  | 0 => fun _ _ _ _ r h => by simp [tolllaw02_HostOrders.j0] at h
  | k + 1 => by
    have ih0 := tolllaw02_HostOrders.mono_l k
    · intro y0 y1 y2 y3
      unfold tolllaw02_HostOrders.j0
      repeat' first
      | (with_reducible exact ih0 _ _ _ _)
      | (with_reducible exact host_Meet.mono _ _ _)
      | (with_reducible exact host_Order.mono _ _ _)
      | (with_reducible exact tolllaw02_awake.mono _)
      | (with_reducible exact LeO.refl _)
      | (with_reducible exact LeO.none _)
      | (with_reducible refine LeO.ite ?_ ?_)
      | (with_reducible refine LeO.bind ?_ (fun _ => ?_))
      | exact ih0 _ _ _ _
      | exact host_Meet.mono _ _ _
      | exact host_Order.mono _ _ _
      | exact tolllaw02_awake.mono _
      | exact LeO.none _
      | refine LeO.ite ?_ ?_
      | refine LeO.bind ?_ (fun _ => ?_)
theorem tolllaw02_HostOrders.mono : ∀ a0 a1 a2 k, LeO (tolllaw02_HostOrders.f k a0 a1 a2) (tolllaw02_HostOrders.f (k + 1) a0 a1 a2) := by
  intro a0 a1 a2 k
  have ih0 := tolllaw02_HostOrders.mono_l k
  unfold tolllaw02_HostOrders.f
  repeat' first
      | (with_reducible exact ih0 _ _ _ _)
      | (with_reducible exact host_Meet.mono _ _ _)
      | (with_reducible exact host_Order.mono _ _ _)
      | (with_reducible exact tolllaw02_awake.mono _)
      | (with_reducible exact LeO.refl _)
      | (with_reducible exact LeO.none _)
      | (with_reducible refine LeO.ite ?_ ?_)
      | (with_reducible refine LeO.bind ?_ (fun _ => ?_))
      | exact ih0 _ _ _ _
      | exact host_Meet.mono _ _ _
      | exact host_Order.mono _ _ _
      | exact tolllaw02_awake.mono _
      | exact LeO.none _
      | refine LeO.ite ?_ ?_
      | refine LeO.bind ?_ (fun _ => ?_)
set_option maxHeartbeats 8000000 in
set_option maxRecDepth 100000 in
theorem tolllaw02_HostOrders.calls (k : Nat) (a0 : ByteArray) (a1 : ByteArray) (a2 : ByteArray) (r : Bool) (w : World) (h : tolllaw02_HostOrders.f k a0 a1 a2 = some r) :
    Calls Tryd.prog 8 #[.string a0, .string a1, .string a2] w fun e w' => e = .returned (.bool r) ∧ Below w.heap.size w w' := by
  have HB := Aside0.mk (Below.refl w.heap.size w)
  have H : ((tolllaw01_Few.f a0).bind fun t280 => ((tolllaw01_Few.f a1).bind fun t281 => ((tolllaw01_Few.f a2).bind fun t282 => ((host_Order.f k t280 t281).bind fun t283 => ((host_Order.f k t281 t282).bind fun t284 => ((host_Order.f k t280 t282).bind fun t285 => ((host_Order.f k t281 t280).bind fun t286 => (if t286 = (wrap64 (-t283)) then (if ((t283 == 0) != (t280.toList == t281.toList)) = true then (none) else (if t283 ≤ 0 then (if t284 ≤ 0 then (if t285 > 0 then (none) else (if t283 < 0 then (tolllaw02_HostOrders.j0 k t280 t281 t283 (decide (t285 ≥ 0))) else (tolllaw02_HostOrders.j0 k t280 t281 t283 false))) else (if t283 < 0 then (tolllaw02_HostOrders.j0 k t280 t281 t283 false) else (tolllaw02_HostOrders.j0 k t280 t281 t283 false))) else (if t283 < 0 then (if t284 ≤ 0 then (tolllaw02_HostOrders.j0 k t280 t281 t283 (decide (t285 ≥ 0))) else (tolllaw02_HostOrders.j0 k t280 t281 t283 false)) else (tolllaw02_HostOrders.j0 k t280 t281 t283 false)))) else (none))))))))) = some r := h
  clear h
  replace H := Option.bind_eq_some_iff.mp H
  obtain ⟨t280, A40, H⟩ := H
  replace H : ((tolllaw01_Few.f a1).bind fun t281 => ((tolllaw01_Few.f a2).bind fun t282 => ((host_Order.f k t280 t281).bind fun t283 => ((host_Order.f k t281 t282).bind fun t284 => ((host_Order.f k t280 t282).bind fun t285 => ((host_Order.f k t281 t280).bind fun t286 => (if t286 = (wrap64 (-t283)) then (if ((t283 == 0) != (t280.toList == t281.toList)) = true then (none) else (if t283 ≤ 0 then (if t284 ≤ 0 then (if t285 > 0 then (none) else (if t283 < 0 then (tolllaw02_HostOrders.j0 k t280 t281 t283 (decide (t285 ≥ 0))) else (tolllaw02_HostOrders.j0 k t280 t281 t283 false))) else (if t283 < 0 then (tolllaw02_HostOrders.j0 k t280 t281 t283 false) else (tolllaw02_HostOrders.j0 k t280 t281 t283 false))) else (if t283 < 0 then (if t284 ≤ 0 then (tolllaw02_HostOrders.j0 k t280 t281 t283 (decide (t285 ≥ 0))) else (tolllaw02_HostOrders.j0 k t280 t281 t283 false)) else (tolllaw02_HostOrders.j0 k t280 t281 t283 false)))) else (none)))))))) = some r := H
  have A4 := Aside0.mk A40
  clear A40
  replace H := Option.bind_eq_some_iff.mp H
  obtain ⟨t281, A50, H⟩ := H
  replace H : ((tolllaw01_Few.f a2).bind fun t282 => ((host_Order.f k t280 t281).bind fun t283 => ((host_Order.f k t281 t282).bind fun t284 => ((host_Order.f k t280 t282).bind fun t285 => ((host_Order.f k t281 t280).bind fun t286 => (if t286 = (wrap64 (-t283)) then (if ((t283 == 0) != (t280.toList == t281.toList)) = true then (none) else (if t283 ≤ 0 then (if t284 ≤ 0 then (if t285 > 0 then (none) else (if t283 < 0 then (tolllaw02_HostOrders.j0 k t280 t281 t283 (decide (t285 ≥ 0))) else (tolllaw02_HostOrders.j0 k t280 t281 t283 false))) else (if t283 < 0 then (tolllaw02_HostOrders.j0 k t280 t281 t283 false) else (tolllaw02_HostOrders.j0 k t280 t281 t283 false))) else (if t283 < 0 then (if t284 ≤ 0 then (tolllaw02_HostOrders.j0 k t280 t281 t283 (decide (t285 ≥ 0))) else (tolllaw02_HostOrders.j0 k t280 t281 t283 false)) else (tolllaw02_HostOrders.j0 k t280 t281 t283 false)))) else (none))))))) = some r := H
  have A5 := Aside0.mk A50
  clear A50
  replace H := Option.bind_eq_some_iff.mp H
  obtain ⟨t282, A60, H⟩ := H
  replace H : ((host_Order.f k t280 t281).bind fun t283 => ((host_Order.f k t281 t282).bind fun t284 => ((host_Order.f k t280 t282).bind fun t285 => ((host_Order.f k t281 t280).bind fun t286 => (if t286 = (wrap64 (-t283)) then (if ((t283 == 0) != (t280.toList == t281.toList)) = true then (none) else (if t283 ≤ 0 then (if t284 ≤ 0 then (if t285 > 0 then (none) else (if t283 < 0 then (tolllaw02_HostOrders.j0 k t280 t281 t283 (decide (t285 ≥ 0))) else (tolllaw02_HostOrders.j0 k t280 t281 t283 false))) else (if t283 < 0 then (tolllaw02_HostOrders.j0 k t280 t281 t283 false) else (tolllaw02_HostOrders.j0 k t280 t281 t283 false))) else (if t283 < 0 then (if t284 ≤ 0 then (tolllaw02_HostOrders.j0 k t280 t281 t283 (decide (t285 ≥ 0))) else (tolllaw02_HostOrders.j0 k t280 t281 t283 false)) else (tolllaw02_HostOrders.j0 k t280 t281 t283 false)))) else (none)))))) = some r := H
  have A6 := Aside0.mk A60
  clear A60
  replace H := Option.bind_eq_some_iff.mp H
  obtain ⟨t283, A70, H⟩ := H
  replace H : ((host_Order.f k t281 t282).bind fun t284 => ((host_Order.f k t280 t282).bind fun t285 => ((host_Order.f k t281 t280).bind fun t286 => (if t286 = (wrap64 (-t283)) then (if ((t283 == 0) != (t280.toList == t281.toList)) = true then (none) else (if t283 ≤ 0 then (if t284 ≤ 0 then (if t285 > 0 then (none) else (if t283 < 0 then (tolllaw02_HostOrders.j0 k t280 t281 t283 (decide (t285 ≥ 0))) else (tolllaw02_HostOrders.j0 k t280 t281 t283 false))) else (if t283 < 0 then (tolllaw02_HostOrders.j0 k t280 t281 t283 false) else (tolllaw02_HostOrders.j0 k t280 t281 t283 false))) else (if t283 < 0 then (if t284 ≤ 0 then (tolllaw02_HostOrders.j0 k t280 t281 t283 (decide (t285 ≥ 0))) else (tolllaw02_HostOrders.j0 k t280 t281 t283 false)) else (tolllaw02_HostOrders.j0 k t280 t281 t283 false)))) else (none))))) = some r := H
  have A7 := Aside0.mk A70
  clear A70
  replace H := Option.bind_eq_some_iff.mp H
  obtain ⟨t284, A80, H⟩ := H
  replace H : ((host_Order.f k t280 t282).bind fun t285 => ((host_Order.f k t281 t280).bind fun t286 => (if t286 = (wrap64 (-t283)) then (if ((t283 == 0) != (t280.toList == t281.toList)) = true then (none) else (if t283 ≤ 0 then (if t284 ≤ 0 then (if t285 > 0 then (none) else (if t283 < 0 then (tolllaw02_HostOrders.j0 k t280 t281 t283 (decide (t285 ≥ 0))) else (tolllaw02_HostOrders.j0 k t280 t281 t283 false))) else (if t283 < 0 then (tolllaw02_HostOrders.j0 k t280 t281 t283 false) else (tolllaw02_HostOrders.j0 k t280 t281 t283 false))) else (if t283 < 0 then (if t284 ≤ 0 then (tolllaw02_HostOrders.j0 k t280 t281 t283 (decide (t285 ≥ 0))) else (tolllaw02_HostOrders.j0 k t280 t281 t283 false)) else (tolllaw02_HostOrders.j0 k t280 t281 t283 false)))) else (none)))) = some r := H
  have A8 := Aside0.mk A80
  clear A80
  replace H := Option.bind_eq_some_iff.mp H
  obtain ⟨t285, A90, H⟩ := H
  replace H : ((host_Order.f k t281 t280).bind fun t286 => (if t286 = (wrap64 (-t283)) then (if ((t283 == 0) != (t280.toList == t281.toList)) = true then (none) else (if t283 ≤ 0 then (if t284 ≤ 0 then (if t285 > 0 then (none) else (if t283 < 0 then (tolllaw02_HostOrders.j0 k t280 t281 t283 (decide (t285 ≥ 0))) else (tolllaw02_HostOrders.j0 k t280 t281 t283 false))) else (if t283 < 0 then (tolllaw02_HostOrders.j0 k t280 t281 t283 false) else (tolllaw02_HostOrders.j0 k t280 t281 t283 false))) else (if t283 < 0 then (if t284 ≤ 0 then (tolllaw02_HostOrders.j0 k t280 t281 t283 (decide (t285 ≥ 0))) else (tolllaw02_HostOrders.j0 k t280 t281 t283 false)) else (tolllaw02_HostOrders.j0 k t280 t281 t283 false)))) else (none))) = some r := H
  have A9 := Aside0.mk A90
  clear A90
  have HC10 := Aside0.mk H
  clear H
  go_enter Tryd.func8, Tryd.ntmps8
  go_upto_region 3 with (first | ((with_reducible refine gate_callee (f := 11) rfl ?_); refine goesL_ (some 13) rfl rfl Tryd.func11 (by kernel_rfl) rfl #[.string a0] rfl (by (try simp only [List.map_toArray, List.map_cons, List.map_nil]); first | done | rfl | (simp only [List.length_drop, List.length_take]; rfl)) ?_; (with_reducible refine (tolllaw01_Few.calls a0 t280 _ A4.out).mono ?_); rintro e w' ⟨rfl, ⟨nd, rfl⟩⟩; refine ⟨_, rfl, ?_⟩) | ((with_reducible refine gate_callee (f := 11) rfl ?_); refine goesL_ (some 15) rfl rfl Tryd.func11 (by kernel_rfl) rfl #[.string a1] rfl (by (try simp only [List.map_toArray, List.map_cons, List.map_nil]); first | done | rfl | (simp only [List.length_drop, List.length_take]; rfl)) ?_; (with_reducible refine (tolllaw01_Few.calls a1 t281 _ A5.out).mono ?_); rintro e w' ⟨rfl, ⟨nd, rfl⟩⟩; refine ⟨_, rfl, ?_⟩) | ((with_reducible refine gate_callee (f := 11) rfl ?_); refine goesL_ (some 17) rfl rfl Tryd.func11 (by kernel_rfl) rfl #[.string a2] rfl (by (try simp only [List.map_toArray, List.map_cons, List.map_nil]); first | done | rfl | (simp only [List.length_drop, List.length_take]; rfl)) ?_; (with_reducible refine (tolllaw01_Few.calls a2 t282 _ A6.out).mono ?_); rintro e w' ⟨rfl, ⟨nd, rfl⟩⟩; refine ⟨_, rfl, ?_⟩) | ((with_reducible refine gate_callee (f := 22) rfl ?_); refine goesL_ (some 20) rfl rfl Tryd.func22 (by kernel_rfl) rfl #[.string t280, .string t281] rfl (by (try simp only [List.map_toArray, List.map_cons, List.map_nil]); first | done | rfl | (simp only [List.length_drop, List.length_take]; rfl)) ?_; (with_reducible refine (host_Order.calls k t280 t281 t283 _ A7.out).mono ?_); rintro e w11 ⟨rfl, hb⟩; refine ⟨_, rfl, ?_⟩; have n0_ := Aside0.mk (below_step (by repeat (first | (with_reducible first | exact HB.out | apply below_alloc | apply pw_below_drewN | apply below_drew1) | exact HB.out)) hb); clear HB; have HB := n0_; clear n0_; (try clear hb); (try clear hb2); (try clear hk); (try clear hi)) | ((with_reducible refine gate_callee (f := 22) rfl ?_); refine goesL_ (some 23) rfl rfl Tryd.func22 (by kernel_rfl) rfl #[.string t281, .string t282] rfl (by (try simp only [List.map_toArray, List.map_cons, List.map_nil]); first | done | rfl | (simp only [List.length_drop, List.length_take]; rfl)) ?_; (with_reducible refine (host_Order.calls k t281 t282 t284 _ A8.out).mono ?_); rintro e w12 ⟨rfl, hb⟩; refine ⟨_, rfl, ?_⟩; have n0_ := Aside0.mk (below_step (by repeat (first | (with_reducible first | exact HB.out | apply below_alloc | apply pw_below_drewN | apply below_drew1) | exact HB.out)) hb); clear HB; have HB := n0_; clear n0_; (try clear hb); (try clear hb2); (try clear hk); (try clear hi)) | ((with_reducible refine gate_callee (f := 22) rfl ?_); refine goesL_ (some 26) rfl rfl Tryd.func22 (by kernel_rfl) rfl #[.string t280, .string t282] rfl (by (try simp only [List.map_toArray, List.map_cons, List.map_nil]); first | done | rfl | (simp only [List.length_drop, List.length_take]; rfl)) ?_; (with_reducible refine (host_Order.calls k t280 t282 t285 _ A9.out).mono ?_); rintro e w13 ⟨rfl, hb⟩; refine ⟨_, rfl, ?_⟩; have n0_ := Aside0.mk (below_step (by repeat (first | (with_reducible first | exact HB.out | apply below_alloc | apply pw_below_drewN | apply below_drew1) | exact HB.out)) hb); clear HB; have HB := n0_; clear n0_; (try clear hb); (try clear hb2); (try clear hk); (try clear hi)))
  (try simp only [Act.put, List.setIfInBounds_toArray, List.set_cons_zero, List.set_cons_succ])
  go_cut [64] (fun v64 wc => ∃ (kq : Nat) (x64_9 : Bool), v64 = .bool x64_9 ∧ Aside0 (tolllaw02_HostOrders.j0 kq t280 t281 t283 x64_9 = some r) ∧ Aside0 (kq ≤ k) ∧ Aside0 (Below w.heap.size w wc))
  case first =>
    have H := HC10.out
    clear HC10
    replace H := Option.bind_eq_some_iff.mp H
    obtain ⟨t286, A140, H⟩ := H
    replace H : (if t286 = (wrap64 (-t283)) then (if ((t283 == 0) != (t280.toList == t281.toList)) = true then (none) else (if t283 ≤ 0 then (if t284 ≤ 0 then (if t285 > 0 then (none) else (if t283 < 0 then (tolllaw02_HostOrders.j0 k t280 t281 t283 (decide (t285 ≥ 0))) else (tolllaw02_HostOrders.j0 k t280 t281 t283 false))) else (if t283 < 0 then (tolllaw02_HostOrders.j0 k t280 t281 t283 false) else (tolllaw02_HostOrders.j0 k t280 t281 t283 false))) else (if t283 < 0 then (if t284 ≤ 0 then (tolllaw02_HostOrders.j0 k t280 t281 t283 (decide (t285 ≥ 0))) else (tolllaw02_HostOrders.j0 k t280 t281 t283 false)) else (tolllaw02_HostOrders.j0 k t280 t281 t283 false)))) else (none)) = some r := H
    have A14 := Aside0.mk A140
    clear A140
    by_cases c15 : t286 = (wrap64 (-t283))
    · rw [if_pos c15] at H
      have c15b0 : (t286 == (wrap64 (-t283))) = true := beq_iff_eq.mpr c15
      have c15b1 : (t286 != (wrap64 (-t283))) = false := bne_eq_false_iff_eq.mpr c15
      clear c15
      (first | rw [c15b0] | rw [c15b1] | rw [c15b2] | (simp only [i64_w, i32_w]; rw [c15b0]) | skip)
      by_cases c16 : ((t283 == 0) != (t280.toList == t281.toList)) = true
      · rw [if_pos c16] at H
        exact absurd H (by simp)
      · rw [if_neg c16] at H
        have c16b0 : ((t283 == 0) != (t280.toList == t281.toList)) = false := by simpa using c16
        (try (have c16b1 : decide ((t283 == 0) = (t280.toList == t281.toList)) = true := by simpa using c16))
        (try (have c16b2 : ((t283 == 0) == (t280.toList == t281.toList)) = true := by simpa using c16))
        clear c16
        by_cases c17 : t283 ≤ 0
        · rw [if_pos c17] at H
          have c17b0 : decide (t283 ≤ 0) = true := decide_eq_true c17
          clear c17
          by_cases c18 : t284 ≤ 0
          · rw [if_pos c18] at H
            have c18b0 : decide (t284 ≤ 0) = true := decide_eq_true c18
            clear c18
            by_cases c19 : t285 > 0
            · rw [if_pos c19] at H
              exact absurd H (by simp)
            · rw [if_neg c19] at H
              have c19b0 : decide (0 < t285) = false := decide_eq_false c19
              clear c19
              by_cases c20 : t283 < 0
              · rw [if_pos c20] at H
                have c20b0 : decide (t283 < 0) = true := decide_eq_true c20
                clear c20
                have H' := Aside0.mk H
                clear H
                go_wp2_with (first | ((with_reducible refine gate_callee (f := 22) rfl ?_); refine goesL_ (some 29) rfl rfl Tryd.func22 (by kernel_rfl) rfl #[.string t281, .string t280] rfl (by (try simp only [List.map_toArray, List.map_cons, List.map_nil]); first | done | rfl | (simp only [List.length_drop, List.length_take]; rfl)) ?_; (with_reducible refine (host_Order.calls k t281 t280 t286 _ A14.out).mono ?_); rintro e w21 ⟨rfl, hb⟩; refine ⟨_, rfl, ?_⟩; have n0_ := Aside0.mk (below_step (by repeat (first | (with_reducible first | exact HB.out | apply below_alloc | apply pw_below_drewN | apply below_drew1) | exact HB.out)) hb); clear HB; have HB := n0_; clear n0_; (try clear hb); (try clear hb2); (try clear hk); (try clear hi)))
                go_meet
                case rel => exact ⟨_, (decide (t285 ≥ 0)), (by first | rfl | (simp; done) | (simp [*]; done) | (simp [bne_nil_isEmpty, beq_nil_isEmpty]; done) | (simp [*, bne_nil_isEmpty, beq_nil_isEmpty]; done)), H', ⟨by first | omega | exact Nat.le_refl _⟩, ⟨by repeat (first | (with_reducible first | exact HB.out | apply below_alloc | apply pw_below_drewN | apply below_drew1) | exact HB.out)⟩⟩
              · rw [if_neg c20] at H
                have c20b0 : decide (t283 < 0) = false := decide_eq_false c20
                clear c20
                have H' := Aside0.mk H
                clear H
                go_wp2_with (first | ((with_reducible refine gate_callee (f := 22) rfl ?_); refine goesL_ (some 29) rfl rfl Tryd.func22 (by kernel_rfl) rfl #[.string t281, .string t280] rfl (by (try simp only [List.map_toArray, List.map_cons, List.map_nil]); first | done | rfl | (simp only [List.length_drop, List.length_take]; rfl)) ?_; (with_reducible refine (host_Order.calls k t281 t280 t286 _ A14.out).mono ?_); rintro e w22 ⟨rfl, hb⟩; refine ⟨_, rfl, ?_⟩; have n0_ := Aside0.mk (below_step (by repeat (first | (with_reducible first | exact HB.out | apply below_alloc | apply pw_below_drewN | apply below_drew1) | exact HB.out)) hb); clear HB; have HB := n0_; clear n0_; (try clear hb); (try clear hb2); (try clear hk); (try clear hi)))
                go_meet
                case rel => exact ⟨_, (false), (by first | rfl | (simp; done) | (simp [*]; done) | (simp [bne_nil_isEmpty, beq_nil_isEmpty]; done) | (simp [*, bne_nil_isEmpty, beq_nil_isEmpty]; done)), H', ⟨by first | omega | exact Nat.le_refl _⟩, ⟨by repeat (first | (with_reducible first | exact HB.out | apply below_alloc | apply pw_below_drewN | apply below_drew1) | exact HB.out)⟩⟩
          · rw [if_neg c18] at H
            have c18b0 : decide (t284 ≤ 0) = false := decide_eq_false c18
            clear c18
            by_cases c23 : t283 < 0
            · rw [if_pos c23] at H
              have c23b0 : decide (t283 < 0) = true := decide_eq_true c23
              clear c23
              have H' := Aside0.mk H
              clear H
              go_wp2_with (first | ((with_reducible refine gate_callee (f := 22) rfl ?_); refine goesL_ (some 29) rfl rfl Tryd.func22 (by kernel_rfl) rfl #[.string t281, .string t280] rfl (by (try simp only [List.map_toArray, List.map_cons, List.map_nil]); first | done | rfl | (simp only [List.length_drop, List.length_take]; rfl)) ?_; (with_reducible refine (host_Order.calls k t281 t280 t286 _ A14.out).mono ?_); rintro e w24 ⟨rfl, hb⟩; refine ⟨_, rfl, ?_⟩; have n0_ := Aside0.mk (below_step (by repeat (first | (with_reducible first | exact HB.out | apply below_alloc | apply pw_below_drewN | apply below_drew1) | exact HB.out)) hb); clear HB; have HB := n0_; clear n0_; (try clear hb); (try clear hb2); (try clear hk); (try clear hi)))
              go_meet
              case rel => exact ⟨_, (false), (by first | rfl | (simp; done) | (simp [*]; done) | (simp [bne_nil_isEmpty, beq_nil_isEmpty]; done) | (simp [*, bne_nil_isEmpty, beq_nil_isEmpty]; done)), H', ⟨by first | omega | exact Nat.le_refl _⟩, ⟨by repeat (first | (with_reducible first | exact HB.out | apply below_alloc | apply pw_below_drewN | apply below_drew1) | exact HB.out)⟩⟩
            · rw [if_neg c23] at H
              have c23b0 : decide (t283 < 0) = false := decide_eq_false c23
              clear c23
              have H' := Aside0.mk H
              clear H
              go_wp2_with (first | ((with_reducible refine gate_callee (f := 22) rfl ?_); refine goesL_ (some 29) rfl rfl Tryd.func22 (by kernel_rfl) rfl #[.string t281, .string t280] rfl (by (try simp only [List.map_toArray, List.map_cons, List.map_nil]); first | done | rfl | (simp only [List.length_drop, List.length_take]; rfl)) ?_; (with_reducible refine (host_Order.calls k t281 t280 t286 _ A14.out).mono ?_); rintro e w25 ⟨rfl, hb⟩; refine ⟨_, rfl, ?_⟩; have n0_ := Aside0.mk (below_step (by repeat (first | (with_reducible first | exact HB.out | apply below_alloc | apply pw_below_drewN | apply below_drew1) | exact HB.out)) hb); clear HB; have HB := n0_; clear n0_; (try clear hb); (try clear hb2); (try clear hk); (try clear hi)))
              go_meet
              case rel => exact ⟨_, (false), (by first | rfl | (simp; done) | (simp [*]; done) | (simp [bne_nil_isEmpty, beq_nil_isEmpty]; done) | (simp [*, bne_nil_isEmpty, beq_nil_isEmpty]; done)), H', ⟨by first | omega | exact Nat.le_refl _⟩, ⟨by repeat (first | (with_reducible first | exact HB.out | apply below_alloc | apply pw_below_drewN | apply below_drew1) | exact HB.out)⟩⟩
        · rw [if_neg c17] at H
          have c17b0 : decide (t283 ≤ 0) = false := decide_eq_false c17
          clear c17
          by_cases c26 : t283 < 0
          · rw [if_pos c26] at H
            have c26b0 : decide (t283 < 0) = true := decide_eq_true c26
            clear c26
            by_cases c27 : t284 ≤ 0
            · rw [if_pos c27] at H
              have c27b0 : decide (t284 ≤ 0) = true := decide_eq_true c27
              clear c27
              have H' := Aside0.mk H
              clear H
              go_wp2_with (first | ((with_reducible refine gate_callee (f := 22) rfl ?_); refine goesL_ (some 29) rfl rfl Tryd.func22 (by kernel_rfl) rfl #[.string t281, .string t280] rfl (by (try simp only [List.map_toArray, List.map_cons, List.map_nil]); first | done | rfl | (simp only [List.length_drop, List.length_take]; rfl)) ?_; (with_reducible refine (host_Order.calls k t281 t280 t286 _ A14.out).mono ?_); rintro e w28 ⟨rfl, hb⟩; refine ⟨_, rfl, ?_⟩; have n0_ := Aside0.mk (below_step (by repeat (first | (with_reducible first | exact HB.out | apply below_alloc | apply pw_below_drewN | apply below_drew1) | exact HB.out)) hb); clear HB; have HB := n0_; clear n0_; (try clear hb); (try clear hb2); (try clear hk); (try clear hi)))
              go_meet
              case rel => exact ⟨_, (decide (t285 ≥ 0)), (by first | rfl | (simp; done) | (simp [*]; done) | (simp [bne_nil_isEmpty, beq_nil_isEmpty]; done) | (simp [*, bne_nil_isEmpty, beq_nil_isEmpty]; done)), H', ⟨by first | omega | exact Nat.le_refl _⟩, ⟨by repeat (first | (with_reducible first | exact HB.out | apply below_alloc | apply pw_below_drewN | apply below_drew1) | exact HB.out)⟩⟩
            · rw [if_neg c27] at H
              have c27b0 : decide (t284 ≤ 0) = false := decide_eq_false c27
              clear c27
              have H' := Aside0.mk H
              clear H
              go_wp2_with (first | ((with_reducible refine gate_callee (f := 22) rfl ?_); refine goesL_ (some 29) rfl rfl Tryd.func22 (by kernel_rfl) rfl #[.string t281, .string t280] rfl (by (try simp only [List.map_toArray, List.map_cons, List.map_nil]); first | done | rfl | (simp only [List.length_drop, List.length_take]; rfl)) ?_; (with_reducible refine (host_Order.calls k t281 t280 t286 _ A14.out).mono ?_); rintro e w29 ⟨rfl, hb⟩; refine ⟨_, rfl, ?_⟩; have n0_ := Aside0.mk (below_step (by repeat (first | (with_reducible first | exact HB.out | apply below_alloc | apply pw_below_drewN | apply below_drew1) | exact HB.out)) hb); clear HB; have HB := n0_; clear n0_; (try clear hb); (try clear hb2); (try clear hk); (try clear hi)))
              go_meet
              case rel => exact ⟨_, (false), (by first | rfl | (simp; done) | (simp [*]; done) | (simp [bne_nil_isEmpty, beq_nil_isEmpty]; done) | (simp [*, bne_nil_isEmpty, beq_nil_isEmpty]; done)), H', ⟨by first | omega | exact Nat.le_refl _⟩, ⟨by repeat (first | (with_reducible first | exact HB.out | apply below_alloc | apply pw_below_drewN | apply below_drew1) | exact HB.out)⟩⟩
          · rw [if_neg c26] at H
            have c26b0 : decide (t283 < 0) = false := decide_eq_false c26
            clear c26
            have H' := Aside0.mk H
            clear H
            go_wp2_with (first | ((with_reducible refine gate_callee (f := 22) rfl ?_); refine goesL_ (some 29) rfl rfl Tryd.func22 (by kernel_rfl) rfl #[.string t281, .string t280] rfl (by (try simp only [List.map_toArray, List.map_cons, List.map_nil]); first | done | rfl | (simp only [List.length_drop, List.length_take]; rfl)) ?_; (with_reducible refine (host_Order.calls k t281 t280 t286 _ A14.out).mono ?_); rintro e w30 ⟨rfl, hb⟩; refine ⟨_, rfl, ?_⟩; have n0_ := Aside0.mk (below_step (by repeat (first | (with_reducible first | exact HB.out | apply below_alloc | apply pw_below_drewN | apply below_drew1) | exact HB.out)) hb); clear HB; have HB := n0_; clear n0_; (try clear hb); (try clear hb2); (try clear hk); (try clear hi)))
            go_meet
            case rel => exact ⟨_, (false), (by first | rfl | (simp; done) | (simp [*]; done) | (simp [bne_nil_isEmpty, beq_nil_isEmpty]; done) | (simp [*, bne_nil_isEmpty, beq_nil_isEmpty]; done)), H', ⟨by first | omega | exact Nat.le_refl _⟩, ⟨by repeat (first | (with_reducible first | exact HB.out | apply below_alloc | apply pw_below_drewN | apply below_drew1) | exact HB.out)⟩⟩
    · rw [if_neg c15] at H
      exact absurd H (by simp)
  case rest =>
    clear HC10
    try clear c1
    try clear c2
    try clear p2
    try clear p6
    try clear c8
    try clear c11
    try clear c15
    try clear c15b0
    try clear c15b1
    try clear c15b2
    try clear c16
    try clear c16b0
    try clear c16b1
    try clear c16b2
    try clear c17
    try clear c17b0
    try clear c18
    try clear c18b0
    try clear c19
    try clear c19b0
    try clear c20
    try clear c20b0
    try clear c22
    try clear c23
    try clear c23b0
    try clear c26
    try clear c26b0
    try clear c27
    try clear c27b0
    obtain ⟨kq, x64_9, rfl, HA, HJ9, HB⟩ := hcut
    cases kq with
    | zero => exact absurd HA.out (by simp [tolllaw02_HostOrders.j0])
    | succ kj9 =>
      have H := HA.out
      clear HA
      simp only [tolllaw02_HostOrders.j0] at H
      by_cases c31 : x64_9 = true
      · subst c31
        have H1 : (none) = some r := by rw [if_pos rfl] at H; exact H
        clear H
        have H := H1
        clear H1
        exact absurd H (by simp)
      · replace c31 := Bool.eq_false_iff.mpr c31
        subst c31
        have H1 : ((host_Meet.f kj9 t280 t281).bind fun bt287 => (if bt287.2 = true then (if bt287.1.toList = t280.toList then (if t280.toList = t281.toList then ((tolllaw02_awake.f kj9).bind fun t289 => (some t289)) else (if t283 < 0 then ((tolllaw02_awake.f kj9).bind fun t290 => (some t290)) else (none))) else ((tolllaw02_awake.f kj9).bind fun t291 => (some t291))) else ((tolllaw02_awake.f kj9).bind fun t292 => (some t292)))) = some r := by rw [if_neg (show ¬ (false = true) by decide)] at H; exact H
        clear H
        have H := H1
        clear H1
        replace H := Option.bind_eq_some_iff.mp H
        obtain ⟨⟨t287, t288⟩, A320, H⟩ := H
        replace H : (if t288 = true then (if t287.toList = t280.toList then (if t280.toList = t281.toList then ((tolllaw02_awake.f kj9).bind fun t289 => (some t289)) else (if t283 < 0 then ((tolllaw02_awake.f kj9).bind fun t290 => (some t290)) else (none))) else ((tolllaw02_awake.f kj9).bind fun t291 => (some t291))) else ((tolllaw02_awake.f kj9).bind fun t292 => (some t292))) = some r := H
        have A32 := Aside0.mk A320
        clear A320
        by_cases c33 : t288 = true
        · subst c33
          have H1 : (if t287.toList = t280.toList then (if t280.toList = t281.toList then ((tolllaw02_awake.f kj9).bind fun t289 => (some t289)) else (if t283 < 0 then ((tolllaw02_awake.f kj9).bind fun t290 => (some t290)) else (none))) else ((tolllaw02_awake.f kj9).bind fun t291 => (some t291))) = some r := by rw [if_pos rfl] at H; exact H
          clear H
          have H := H1
          clear H1
          by_cases c34 : t287.toList = t280.toList
          · rw [if_pos c34] at H
            have c34b0 : (t287.toList == t280.toList) = true := beq_iff_eq.mpr c34
            have c34b1 : (t287.toList != t280.toList) = false := bne_eq_false_iff_eq.mpr c34
            clear c34
            by_cases c35 : t280.toList = t281.toList
            · rw [if_pos c35] at H
              have c35b0 : (t280.toList == t281.toList) = true := beq_iff_eq.mpr c35
              have c35b1 : (t280.toList != t281.toList) = false := bne_eq_false_iff_eq.mpr c35
              clear c35
              replace H := Option.bind_eq_some_iff.mp H
              obtain ⟨t289, A360, H⟩ := H
              replace H : (some t289) = some r := H
              have A36 := Aside0.mk A360
              clear A360
              obtain rfl := Option.some.inj H
              go_wp2_with (first | ((with_reducible refine gate_callee (f := 17) rfl ?_); refine goesL_ (some 68) rfl rfl Tryd.func17 (by kernel_rfl) rfl #[.string t280, .string t281] rfl (by (try simp only [List.map_toArray, List.map_cons, List.map_nil]); first | done | rfl | (simp only [List.length_drop, List.length_take]; rfl)) ?_; (with_reducible refine (host_Meet.calls kj9 t280 t281 t287 true _ A32.out).mono ?_); rintro e w37 ⟨rfl, hb⟩; refine ⟨_, rfl, ?_⟩; have n0_ := Aside0.mk (below_step (by repeat (first | (with_reducible first | exact HB.out | apply below_alloc | apply pw_below_drewN | apply below_drew1) | exact HB.out)) hb); clear HB; have HB := n0_; clear n0_; (try clear hb); (try clear hb2); (try clear hk); (try clear hi)) | (go_at_call 16; (with_reducible refine (tolllaw02_awake.calls kj9  t289 _ A36.out).mono ?_); rintro e w38 ⟨rfl, hb⟩; have n0_ := Aside0.mk (below_step (by repeat (first | (with_reducible first | exact HB.out | apply below_alloc | apply pw_below_drewN | apply below_drew1) | exact HB.out)) hb); clear HB; have HB := n0_; clear n0_; (try clear hb); (try clear hb2); (try clear hk); (try clear hi)))
              go_ret
              exact ⟨by first | rfl | (simp [errW_none, errW_some] <;> rfl) | (simp [*, errW_none, errW_some] <;> rfl), by repeat (first | (with_reducible first | exact HB.out | apply below_alloc | apply pw_below_drewN | apply below_drew1) | exact HB.out)⟩
            · rw [if_neg c35] at H
              have c35b0 : (t280.toList == t281.toList) = false := beq_eq_false_iff_ne.mpr c35
              have c35b1 : (t280.toList != t281.toList) = true := bne_iff_ne.mpr c35
              by_cases c39 : t283 < 0
              · rw [if_pos c39] at H
                have c39b0 : decide (t283 < 0) = true := decide_eq_true c39
                clear c39
                replace H := Option.bind_eq_some_iff.mp H
                obtain ⟨t290, A400, H⟩ := H
                replace H : (some t290) = some r := H
                have A40 := Aside0.mk A400
                clear A400
                obtain rfl := Option.some.inj H
                go_wp2_with (first | ((with_reducible refine gate_callee (f := 17) rfl ?_); refine goesL_ (some 68) rfl rfl Tryd.func17 (by kernel_rfl) rfl #[.string t280, .string t281] rfl (by (try simp only [List.map_toArray, List.map_cons, List.map_nil]); first | done | rfl | (simp only [List.length_drop, List.length_take]; rfl)) ?_; (with_reducible refine (host_Meet.calls kj9 t280 t281 t287 true _ A32.out).mono ?_); rintro e w41 ⟨rfl, hb⟩; refine ⟨_, rfl, ?_⟩; have n0_ := Aside0.mk (below_step (by repeat (first | (with_reducible first | exact HB.out | apply below_alloc | apply pw_below_drewN | apply below_drew1) | exact HB.out)) hb); clear HB; have HB := n0_; clear n0_; (try clear hb); (try clear hb2); (try clear hk); (try clear hi)) | (go_at_call 16; (with_reducible refine (tolllaw02_awake.calls kj9  t290 _ A40.out).mono ?_); rintro e w42 ⟨rfl, hb⟩; have n0_ := Aside0.mk (below_step (by repeat (first | (with_reducible first | exact HB.out | apply below_alloc | apply pw_below_drewN | apply below_drew1) | exact HB.out)) hb); clear HB; have HB := n0_; clear n0_; (try clear hb); (try clear hb2); (try clear hk); (try clear hi)))
                go_ret
                exact ⟨by first | rfl | (simp [errW_none, errW_some] <;> rfl) | (simp [*, errW_none, errW_some] <;> rfl), by repeat (first | (with_reducible first | exact HB.out | apply below_alloc | apply pw_below_drewN | apply below_drew1) | exact HB.out)⟩
              · rw [if_neg c39] at H
                exact absurd H (by simp)
          · rw [if_neg c34] at H
            have c34b0 : (t287.toList == t280.toList) = false := beq_eq_false_iff_ne.mpr c34
            have c34b1 : (t287.toList != t280.toList) = true := bne_iff_ne.mpr c34
            replace H := Option.bind_eq_some_iff.mp H
            obtain ⟨t291, A430, H⟩ := H
            replace H : (some t291) = some r := H
            have A43 := Aside0.mk A430
            clear A430
            obtain rfl := Option.some.inj H
            go_wp2_with (first | ((with_reducible refine gate_callee (f := 17) rfl ?_); refine goesL_ (some 68) rfl rfl Tryd.func17 (by kernel_rfl) rfl #[.string t280, .string t281] rfl (by (try simp only [List.map_toArray, List.map_cons, List.map_nil]); first | done | rfl | (simp only [List.length_drop, List.length_take]; rfl)) ?_; (with_reducible refine (host_Meet.calls kj9 t280 t281 t287 true _ A32.out).mono ?_); rintro e w44 ⟨rfl, hb⟩; refine ⟨_, rfl, ?_⟩; have n0_ := Aside0.mk (below_step (by repeat (first | (with_reducible first | exact HB.out | apply below_alloc | apply pw_below_drewN | apply below_drew1) | exact HB.out)) hb); clear HB; have HB := n0_; clear n0_; (try clear hb); (try clear hb2); (try clear hk); (try clear hi)) | (go_at_call 16; (with_reducible refine (tolllaw02_awake.calls kj9  t291 _ A43.out).mono ?_); rintro e w45 ⟨rfl, hb⟩; have n0_ := Aside0.mk (below_step (by repeat (first | (with_reducible first | exact HB.out | apply below_alloc | apply pw_below_drewN | apply below_drew1) | exact HB.out)) hb); clear HB; have HB := n0_; clear n0_; (try clear hb); (try clear hb2); (try clear hk); (try clear hi)))
            go_ret
            exact ⟨by first | rfl | (simp [errW_none, errW_some] <;> rfl) | (simp [*, errW_none, errW_some] <;> rfl), by repeat (first | (with_reducible first | exact HB.out | apply below_alloc | apply pw_below_drewN | apply below_drew1) | exact HB.out)⟩
        · replace c33 := Bool.eq_false_iff.mpr c33
          subst c33
          have H1 : ((tolllaw02_awake.f kj9).bind fun t292 => (some t292)) = some r := by rw [if_neg (show ¬ (false = true) by decide)] at H; exact H
          clear H
          have H := H1
          clear H1
          replace H := Option.bind_eq_some_iff.mp H
          obtain ⟨t292, A460, H⟩ := H
          replace H : (some t292) = some r := H
          have A46 := Aside0.mk A460
          clear A460
          obtain rfl := Option.some.inj H
          go_wp2_with (first | ((with_reducible refine gate_callee (f := 17) rfl ?_); refine goesL_ (some 68) rfl rfl Tryd.func17 (by kernel_rfl) rfl #[.string t280, .string t281] rfl (by (try simp only [List.map_toArray, List.map_cons, List.map_nil]); first | done | rfl | (simp only [List.length_drop, List.length_take]; rfl)) ?_; (with_reducible refine (host_Meet.calls kj9 t280 t281 t287 false _ A32.out).mono ?_); rintro e w47 ⟨rfl, hb⟩; refine ⟨_, rfl, ?_⟩; have n0_ := Aside0.mk (below_step (by repeat (first | (with_reducible first | exact HB.out | apply below_alloc | apply pw_below_drewN | apply below_drew1) | exact HB.out)) hb); clear HB; have HB := n0_; clear n0_; (try clear hb); (try clear hb2); (try clear hk); (try clear hi)) | (go_at_call 16; (with_reducible refine (tolllaw02_awake.calls kj9  t292 _ A46.out).mono ?_); rintro e w48 ⟨rfl, hb⟩; have n0_ := Aside0.mk (below_step (by repeat (first | (with_reducible first | exact HB.out | apply below_alloc | apply pw_below_drewN | apply below_drew1) | exact HB.out)) hb); clear HB; have HB := n0_; clear n0_; (try clear hb); (try clear hb2); (try clear hk); (try clear hi)))
          go_ret
          exact ⟨by first | rfl | (simp [errW_none, errW_some] <;> rfl) | (simp [*, errW_none, errW_some] <;> rfl), by repeat (first | (with_reducible first | exact HB.out | apply below_alloc | apply pw_below_drewN | apply below_drew1) | exact HB.out)⟩

/-- THE ONE PURE STATEMENT of tolllaw02_HostOrders: yours. -/
def tolllaw02_HostOrders.Pure : Prop := ∀ (a0 : ByteArray) (a1 : ByteArray) (a2 : ByteArray), a0.size ≤ 140737488351232 → a1.size ≤ 140737488351232 → a2.size ≤ 140737488351232 → ∃ k, tolllaw02_HostOrders.f k a0 a1 a2 = some true
theorem tolllaw02_HostOrders.walk (P : tolllaw02_HostOrders.Pure) (a0 : ByteArray) (a1 : ByteArray) (a2 : ByteArray) (w : World) (w0 : a0.size ≤ 140737488351232) (w1 : a1.size ≤ 140737488351232) (w2 : a2.size ≤ 140737488351232) :
    Calls Tryd.prog 8 #[.string a0, .string a1, .string a2] w fun e w' => e = .returned (.bool true) ∧ Below w.heap.size w w' := by
  obtain ⟨k, h⟩ := P a0 a1 a2 w0 w1 w2
  refine (tolllaw02_HostOrders.calls k a0 a1 a2 true w h).mono ?_
  rintro e w' ⟨rfl, hd⟩
  exact ⟨rfl, hd⟩

/-! ### tolllaw02_few: function 24 -/
def tolllaw02_few.l0 : Nat → List ByteArray → List ByteArray → Int → Option (List ByteArray)
  | 0, _, _, _ => none
  | k + 1, x0, x3, x4 => if x4 < (x0.length : Int) then (if x4 < 12 then (if 0 ≤ x4 then ((tolllaw01_Few.f (rdOf ByteArray.empty x0 x4)).bind fun t294 => (if x3.length < 8796093022208 then (tolllaw02_few.l0 k x0 (x3 ++ [t294]) (wrap64 (x4 + 1))) else (none))) else (none)) else (some x3)) else (some x3)
def tolllaw02_few.f (k : Nat) (l0 : List ByteArray) : Option (List ByteArray) := tolllaw02_few.l0 k l0 ([] : List ByteArray) 0
theorem tolllaw02_few.mono_l : ∀ k, (∀ y0 y1 y2, LeO (tolllaw02_few.l0 k y0 y1 y2) (tolllaw02_few.l0 (k + 1) y0 y1 y2))
  | 0 => fun _ _ _ r h => by simp [tolllaw02_few.l0] at h
  | k + 1 => by
    have ih0 := tolllaw02_few.mono_l k
    · intro y0 y1 y2
      unfold tolllaw02_few.l0
      repeat' first
      | (with_reducible exact ih0 _ _ _)
      | (with_reducible exact LeO.refl _)
      | (with_reducible exact LeO.none _)
      | (with_reducible refine LeO.ite ?_ ?_)
      | (with_reducible refine LeO.bind ?_ (fun _ => ?_))
      | exact ih0 _ _ _
      | exact LeO.none _
      | refine LeO.ite ?_ ?_
      | refine LeO.bind ?_ (fun _ => ?_)
theorem tolllaw02_few.mono : ∀ a0 k, LeO (tolllaw02_few.f k a0) (tolllaw02_few.f (k + 1) a0) := by
  intro a0 k
  have ih0 := tolllaw02_few.mono_l k
  unfold tolllaw02_few.f
  repeat' first
      | (with_reducible exact ih0 _ _ _)
      | (with_reducible exact LeO.refl _)
      | (with_reducible exact LeO.none _)
      | (with_reducible refine LeO.ite ?_ ?_)
      | (with_reducible refine LeO.bind ?_ (fun _ => ?_))
      | exact ih0 _ _ _
      | exact LeO.none _
      | refine LeO.ite ?_ ?_
      | refine LeO.bind ?_ (fun _ => ?_)
set_option maxHeartbeats 8000000 in
set_option maxRecDepth 100000 in
theorem tolllaw02_few.calls (k : Nat) (A0 : Option Addr) (c0 : Nat) (l0 : List ByteArray) (r : List ByteArray) (w : World) (hr0 : Kd.C Kd.string w A0 l0.length l0) (hc0 : l0.length ≤ c0) (h : tolllaw02_few.f k l0 = some r) :
    Calls Tryd.prog 24 #[.slice A0 l0.length c0] w fun e w' => ∃ v0_ : Value, e = .returned (v0_) ∧ Kd.R Kd.string 9 w' w.heap.size (fun _ => True) v0_ r ∧ Below w.heap.size w w' := by
  have HR0 := Aside0.mk hr0
  have HC0 := Aside0.mk hc0
  clear hr0 hc0
  have HB := Aside0.mk (Below.refl w.heap.size w)
  have H : (tolllaw02_few.l0 k l0 ([] : List ByteArray) 0) = some r := h
  clear h
  have H' := Aside0.mk H
  clear H
  go_enter Tryd.func24, Tryd.ntmps24
  go_wp2
  go_loopg [3, 4] k (fun kq v3 v4 w' => ∃ (x3_1 : List ByteArray) (x4_1 : Int), v4 = .int .i64 x4_1 ∧ Aside0 (tolllaw02_few.l0 kq l0 x3_1 x4_1 = some r) ∧ Aside0 (kq ≤ k) ∧ Aside0 (Kd.R Kd.string 9 w' w.heap.size (fun _ => True) v3 x3_1) ∧ Aside0 (Below w.heap.size w w'))
  case atStart => exact ⟨(([] : List ByteArray)), (0), (by first | rfl | (simp; done) | (simp [*]; done) | (simp [bne_nil_isEmpty, beq_nil_isEmpty]; done) | (simp [*, bne_nil_isEmpty, beq_nil_isEmpty]; done)), H', ⟨Nat.le_refl _⟩, ⟨by first | exact Kd.R_nil _ _ _ _ _ | exact Kd.N_nil _ _ _ _ _ | exact Kd.V_nil _ _ _ _ _ | exact Kd.Q_nil _ _ _ _ _ | exact Kd.S_nil _ _ _ _ _⟩, ⟨by repeat (first | (with_reducible first | exact HB.out | apply below_alloc | apply pw_below_drewN | apply below_drew1) | exact HB.out)⟩⟩
  case round =>
    clear H'
    obtain ⟨x3_1, x4_1, rfl, HA, HK1, HO_3, HB⟩ := hrel
    cases gk with
    | zero => exact absurd HA.out (by simp [tolllaw02_few.l0])
    | succ k1 =>
      have H := HA.out
      clear HA
      simp only [tolllaw02_few.l0] at H
      by_cases c2 : x4_1 < (l0.length : Int)
      · rw [if_pos c2] at H
        have c2b0 : decide (x4_1 < (l0.length : Int)) = true := decide_eq_true c2
        clear c2
        by_cases c3 : x4_1 < 12
        · rw [if_pos c3] at H
          have c3b0 : decide (x4_1 < 12) = true := decide_eq_true c3
          clear c3
          by_cases c4 : 0 ≤ x4_1
          · rw [if_pos c4] at H
            have c4b0 : decide (0 ≤ x4_1) = true := decide_eq_true c4
            clear c4
            replace H := Option.bind_eq_some_iff.mp H
            obtain ⟨t294, A50, H⟩ := H
            replace H : (if x3_1.length < 8796093022208 then (tolllaw02_few.l0 k1 l0 (x3_1 ++ [t294]) (wrap64 (x4_1 + 1))) else (none)) = some r := H
            have A5 := Aside0.mk A50
            clear A50
            by_cases c6 : x3_1.length < 8796093022208
            · rw [if_pos c6] at H
              have LMc6 := Aside0.mk c6
              clear c6
              obtain ⟨y295, hy295⟩ : ∃ y_ : List ByteArray, y_ = (x3_1 ++ [t294]) := ⟨_, rfl⟩
              replace H : (tolllaw02_few.l0 k1 l0 y295 (wrap64 (x4_1 + 1))) = some r := by first | (rw [hy295]; with_reducible exact H) | (have H2_ := (Option.bind_some _ _).symm.trans H; rw [hy295]; with_reducible exact H2_) | (have H2_ := (Option.bind_some _ _).symm.trans H; with_reducible exact H2_) | with_reducible exact H | (rw [hy295]; exact H) | exact H
              have Ny295 := Aside0.mk hy295
              clear hy295
              have H' := Aside0.mk H
              clear H
              have p293 : 0 ≤ (x4_1 : Int) := of_decide_eq_true (by first | (with_reducible assumption) | assumption)
              have q293 : x4_1 < (l0.length : Int) := of_decide_eq_true (by first | (with_reducible assumption) | assumption)
              obtain ⟨ad293, e293, hx293_0⟩ := Kd.at_string HR0.out x4_1 p293 q293
              cases e293
              replace hx293_0 := (HB.out.cell (World.block_lt_of_cell? w _ hx293_0)).trans hx293_0
              replace p293 := eq_true p293
              replace q293 := eq_true q293
              go_wp2_with (first | ((with_reducible refine gate_callee (f := 11) rfl ?_); refine goesL_ (some 20) rfl rfl Tryd.func11 (by kernel_rfl) rfl #[.string (rdOf ByteArray.empty l0 x4_1)] rfl (by (try simp only [List.map_toArray, List.map_cons, List.map_nil]); first | done | rfl | (simp only [List.length_drop, List.length_take]; rfl)) ?_; (with_reducible refine (tolllaw01_Few.calls (rdOf ByteArray.empty l0 x4_1) t294 _ A5.out).mono ?_); rintro e w' ⟨rfl, ⟨nd, rfl⟩⟩; refine ⟨_, rfl, ?_⟩) | ((with_reducible refine gate_builtin (b := .append) (xs := #[.tmp 15, .tmp 21]) rfl ?_); at_builtin; refine Kd.R_append Kd.string (w0 := w) w.heap.size rfl (.tmp 15) (.tmp 21) 38 9 (.string ⟨#[]⟩) 16 rfl Tryd.underlying38 info9 rfl (by decide) (by omega) u3 x3_1 t294 [.string t294] (fun _ => True) (fun _ => False) rfl rfl ?aP (fun _ hk => hk.elim) ?aF ?aO ?aB ?aS ?aL ?_; (case aP => exact rfl); (case aB => exact (by repeat (first | (with_reducible first | exact HB.out | apply below_alloc | apply pw_below_drewN | apply below_drew1) | exact HB.out))); (case aF => exact (fun _ _ => trivial)); (case aO => exact (by (with_reducible repeat (first | apply Kd.R_alloc | apply Kd.R_drewN | apply Kd.R_drew)); exact HO_3.out)); (case aS => exact (below_size (by repeat (first | (with_reducible first | exact HB.out | apply below_alloc | apply pw_below_drewN | apply below_drew1) | exact HB.out)))); (case aL => have := LMc6.out; omega); intro v296 w7 ho hb hg hat; rw [← Ny295.out] at ho; have n0_ := Aside0.mk (hb); have n1_ := Aside0.mk (ho); clear HB; clear HO_3; have HB := n0_; have HO297 := n1_; clear n0_ n1_; clear ho hb hg hat))
              go_roundg k1
              case measure => have := HK1.out; omega
              case rel => exact ⟨(y295), (wrap64 (x4_1 + 1)), (by first | rfl | (simp; done) | (simp [*]; done) | (simp [bne_nil_isEmpty, beq_nil_isEmpty]; done) | (simp [*, bne_nil_isEmpty, beq_nil_isEmpty]; done)), H', ⟨by have := HK1.out; omega⟩, ⟨by (with_reducible repeat (first | apply Kd.R_alloc | apply Kd.R_drewN | apply Kd.R_drew)); exact HO297.out⟩, ⟨by repeat (first | (with_reducible first | exact HB.out | apply below_alloc | apply pw_below_drewN | apply below_drew1) | exact HB.out)⟩⟩
            · rw [if_neg c6] at H
              exact absurd H (by simp)
          · rw [if_neg c4] at H
            exact absurd H (by simp)
        · rw [if_neg c3] at H
          have c3b0 : decide (x4_1 < 12) = false := decide_eq_false c3
          clear c3
          obtain rfl := Option.some.inj H
          go_wp2
          go_ret
          exact ⟨_, by first | rfl | (simp [errW_none, errW_some] <;> rfl) | (simp [*, errW_none, errW_some] <;> rfl), by (with_reducible repeat (first | apply Kd.R_alloc | apply Kd.R_drewN | apply Kd.R_drew)); exact HO_3.out, by repeat (first | (with_reducible first | exact HB.out | apply below_alloc | apply pw_below_drewN | apply below_drew1) | exact HB.out)⟩
      · rw [if_neg c2] at H
        have c2b0 : decide (x4_1 < (l0.length : Int)) = false := decide_eq_false c2
        clear c2
        obtain rfl := Option.some.inj H
        go_wp2
        go_ret
        exact ⟨_, by first | rfl | (simp [errW_none, errW_some] <;> rfl) | (simp [*, errW_none, errW_some] <;> rfl), by (with_reducible repeat (first | apply Kd.R_alloc | apply Kd.R_drewN | apply Kd.R_drew)); exact HO_3.out, by repeat (first | (with_reducible first | exact HB.out | apply below_alloc | apply pw_below_drewN | apply below_drew1) | exact HB.out)⟩

/-! ### host_Best: function 25 -/
def host_Best.l0 : Nat → List ByteArray → ByteArray → Int → Bool → List ByteArray → Int → Int → Option (Int × Bool)
  | 0, _, _, _, _, _, _, _ => none
  | k + 1, x0, x1, x6, x7, x10, x11, x12 => if x12 < x11 then (if 0 ≤ x12 then (if x12 < (x10.length : Int) then ((host_Holds.f k (rdOf ByteArray.empty x10 x12) x1).bind fun t299 => (if t299 = true then (if x7 = true then (if 0 ≤ x6 then (if x6 < (x0.length : Int) then ((host_Order.f k (rdOf ByteArray.empty x10 x12) (rdOf ByteArray.empty x0 x6)).bind fun t301 => (if t301 < 0 then (host_Best.l0 k x0 x1 x12 true x10 x11 (wrap64 (x12 + 1))) else (host_Best.l0 k x0 x1 x6 x7 x10 x11 (wrap64 (x12 + 1))))) else (none)) else (none)) else (host_Best.l0 k x0 x1 x12 true x10 x11 (wrap64 (x12 + 1)))) else (host_Best.l0 k x0 x1 x6 x7 x10 x11 (wrap64 (x12 + 1))))) else (none)) else (none)) else (some (x6, x7))
def host_Best.f (k : Nat) (l0 : List ByteArray) (a1 : ByteArray) : Option (Int × Bool) := host_Best.l0 k l0 a1 0 false l0 (l0.length : Int) 0
theorem host_Best.mono_l : ∀ k, (∀ y0 y1 y2 y3 y4 y5 y6, LeO (host_Best.l0 k y0 y1 y2 y3 y4 y5 y6) (host_Best.l0 (k + 1) y0 y1 y2 y3 y4 y5 y6))
  | 0 => fun _ _ _ _ _ _ _ r h => by simp [host_Best.l0] at h
  | k + 1 => by
    have ih0 := host_Best.mono_l k
    · intro y0 y1 y2 y3 y4 y5 y6
      unfold host_Best.l0
      repeat' first
      | (with_reducible exact ih0 _ _ _ _ _ _ _)
      | (with_reducible exact host_Holds.mono _ _ _)
      | (with_reducible exact host_Order.mono _ _ _)
      | (with_reducible exact LeO.refl _)
      | (with_reducible exact LeO.none _)
      | (with_reducible refine LeO.ite ?_ ?_)
      | (with_reducible refine LeO.bind ?_ (fun _ => ?_))
      | exact ih0 _ _ _ _ _ _ _
      | exact host_Holds.mono _ _ _
      | exact host_Order.mono _ _ _
      | exact LeO.none _
      | refine LeO.ite ?_ ?_
      | refine LeO.bind ?_ (fun _ => ?_)
theorem host_Best.mono : ∀ a0 a1 k, LeO (host_Best.f k a0 a1) (host_Best.f (k + 1) a0 a1) := by
  intro a0 a1 k
  have ih0 := host_Best.mono_l k
  unfold host_Best.f
  repeat' first
      | (with_reducible exact ih0 _ _ _ _ _ _ _)
      | (with_reducible exact host_Holds.mono _ _ _)
      | (with_reducible exact host_Order.mono _ _ _)
      | (with_reducible exact LeO.refl _)
      | (with_reducible exact LeO.none _)
      | (with_reducible refine LeO.ite ?_ ?_)
      | (with_reducible refine LeO.bind ?_ (fun _ => ?_))
      | exact ih0 _ _ _ _ _ _ _
      | exact host_Holds.mono _ _ _
      | exact host_Order.mono _ _ _
      | exact LeO.none _
      | refine LeO.ite ?_ ?_
      | refine LeO.bind ?_ (fun _ => ?_)
set_option maxHeartbeats 8000000 in
set_option maxRecDepth 100000 in
theorem host_Best.calls (k : Nat) (A0 : Option Addr) (c0 : Nat) (l0 : List ByteArray) (a1 : ByteArray) (r1 : Int) (r2 : Bool) (w : World) (hr0 : Kd.C Kd.string w A0 l0.length l0) (hc0 : l0.length ≤ c0) (h : host_Best.f k l0 a1 = some (r1, r2)) :
    Calls Tryd.prog 25 #[.slice A0 l0.length c0, .string a1] w fun e w' => e = .returned (.tuple #[.int .i64 r1, .bool r2]) ∧ Below w.heap.size w w' := by
  have HR0 := Aside0.mk hr0
  have HC0 := Aside0.mk hc0
  clear hr0 hc0
  have HB := Aside0.mk (Below.refl w.heap.size w)
  have H : (host_Best.l0 k l0 a1 0 false l0 (l0.length : Int) 0) = some (r1, r2) := h
  clear h
  have H' := Aside0.mk H
  clear H
  go_enter Tryd.func25, Tryd.ntmps25
  go_wp2
  go_loopg [6, 7, 12] k (fun kq v6 v7 v12 w' => ∃ (x6_1 : Int) (x7_1 : Bool) (x12_1 : Int), v6 = .int .i64 x6_1 ∧ v7 = .bool x7_1 ∧ v12 = .int .i64 x12_1 ∧ Aside0 (host_Best.l0 kq l0 a1 x6_1 x7_1 l0 (l0.length : Int) x12_1 = some (r1, r2)) ∧ Aside0 (kq ≤ k) ∧ Aside0 (Below w.heap.size w w'))
  case atStart => exact ⟨(0), (false), (0), (by first | rfl | (simp; done) | (simp [*]; done) | (simp [bne_nil_isEmpty, beq_nil_isEmpty]; done) | (simp [*, bne_nil_isEmpty, beq_nil_isEmpty]; done)), (by first | rfl | (simp; done) | (simp [*]; done) | (simp [bne_nil_isEmpty, beq_nil_isEmpty]; done) | (simp [*, bne_nil_isEmpty, beq_nil_isEmpty]; done)), (by first | rfl | (simp; done) | (simp [*]; done) | (simp [bne_nil_isEmpty, beq_nil_isEmpty]; done) | (simp [*, bne_nil_isEmpty, beq_nil_isEmpty]; done)), H', ⟨Nat.le_refl _⟩, ⟨by repeat (first | (with_reducible first | exact HB.out | apply below_alloc | apply pw_below_drewN | apply below_drew1) | exact HB.out)⟩⟩
  case round =>
    clear H'
    try clear c2
    try clear p2
    obtain ⟨x6_1, x7_1, x12_1, rfl, rfl, rfl, HA, HK1, HB⟩ := hrel
    cases gk with
    | zero => exact absurd HA.out (by simp [host_Best.l0])
    | succ k1 =>
      have H := HA.out
      clear HA
      simp only [host_Best.l0] at H
      by_cases c3 : x12_1 < (l0.length : Int)
      · rw [if_pos c3] at H
        have c3b0 : decide (x12_1 < (l0.length : Int)) = true := decide_eq_true c3
        clear c3
        by_cases c4 : 0 ≤ x12_1
        · rw [if_pos c4] at H
          have c4b0 : decide (0 ≤ x12_1) = true := decide_eq_true c4
          clear c4
          by_cases c5 : x12_1 < (l0.length : Int)
          · rw [if_pos c5] at H
            have c5b0 : decide (x12_1 < (l0.length : Int)) = true := decide_eq_true c5
            clear c5
            replace H := Option.bind_eq_some_iff.mp H
            obtain ⟨t299, A60, H⟩ := H
            replace H : (if t299 = true then (if x7_1 = true then (if 0 ≤ x6_1 then (if x6_1 < (l0.length : Int) then ((host_Order.f k1 (rdOf ByteArray.empty l0 x12_1) (rdOf ByteArray.empty l0 x6_1)).bind fun t301 => (if t301 < 0 then (host_Best.l0 k1 l0 a1 x12_1 true l0 (l0.length : Int) (wrap64 (x12_1 + 1))) else (host_Best.l0 k1 l0 a1 x6_1 x7_1 l0 (l0.length : Int) (wrap64 (x12_1 + 1))))) else (none)) else (none)) else (host_Best.l0 k1 l0 a1 x12_1 true l0 (l0.length : Int) (wrap64 (x12_1 + 1)))) else (host_Best.l0 k1 l0 a1 x6_1 x7_1 l0 (l0.length : Int) (wrap64 (x12_1 + 1)))) = some (r1, r2) := H
            have A6 := Aside0.mk A60
            clear A60
            by_cases c7 : t299 = true
            · subst c7
              have H1 : (if x7_1 = true then (if 0 ≤ x6_1 then (if x6_1 < (l0.length : Int) then ((host_Order.f k1 (rdOf ByteArray.empty l0 x12_1) (rdOf ByteArray.empty l0 x6_1)).bind fun t301 => (if t301 < 0 then (host_Best.l0 k1 l0 a1 x12_1 true l0 (l0.length : Int) (wrap64 (x12_1 + 1))) else (host_Best.l0 k1 l0 a1 x6_1 x7_1 l0 (l0.length : Int) (wrap64 (x12_1 + 1))))) else (none)) else (none)) else (host_Best.l0 k1 l0 a1 x12_1 true l0 (l0.length : Int) (wrap64 (x12_1 + 1)))) = some (r1, r2) := by rw [if_pos rfl] at H; exact H
              clear H
              have H := H1
              clear H1
              by_cases c8 : x7_1 = true
              · subst c8
                have H1 : (if 0 ≤ x6_1 then (if x6_1 < (l0.length : Int) then ((host_Order.f k1 (rdOf ByteArray.empty l0 x12_1) (rdOf ByteArray.empty l0 x6_1)).bind fun t301 => (if t301 < 0 then (host_Best.l0 k1 l0 a1 x12_1 true l0 (l0.length : Int) (wrap64 (x12_1 + 1))) else (host_Best.l0 k1 l0 a1 x6_1 true l0 (l0.length : Int) (wrap64 (x12_1 + 1))))) else (none)) else (none)) = some (r1, r2) := by rw [if_pos rfl] at H; exact H
                clear H
                have H := H1
                clear H1
                by_cases c9 : 0 ≤ x6_1
                · rw [if_pos c9] at H
                  have c9b0 : decide (0 ≤ x6_1) = true := decide_eq_true c9
                  clear c9
                  by_cases c10 : x6_1 < (l0.length : Int)
                  · rw [if_pos c10] at H
                    have c10b0 : decide (x6_1 < (l0.length : Int)) = true := decide_eq_true c10
                    clear c10
                    replace H := Option.bind_eq_some_iff.mp H
                    obtain ⟨t301, A110, H⟩ := H
                    replace H : (if t301 < 0 then (host_Best.l0 k1 l0 a1 x12_1 true l0 (l0.length : Int) (wrap64 (x12_1 + 1))) else (host_Best.l0 k1 l0 a1 x6_1 true l0 (l0.length : Int) (wrap64 (x12_1 + 1)))) = some (r1, r2) := H
                    have A11 := Aside0.mk A110
                    clear A110
                    by_cases c12 : t301 < 0
                    · rw [if_pos c12] at H
                      have c12b0 : decide (t301 < 0) = true := decide_eq_true c12
                      clear c12
                      have H' := Aside0.mk H
                      clear H
                      have p298 : 0 ≤ (x12_1 : Int) := of_decide_eq_true (by first | (with_reducible assumption) | assumption)
                      have q298 : x12_1 < (l0.length : Int) := of_decide_eq_true (by first | (with_reducible assumption) | assumption)
                      obtain ⟨ad298, e298, hx298_0⟩ := Kd.at_string HR0.out x12_1 p298 q298
                      cases e298
                      replace hx298_0 := (HB.out.cell (World.block_lt_of_cell? w _ hx298_0)).trans hx298_0
                      replace p298 := eq_true p298
                      replace q298 := eq_true q298
                      go_wp2_with (first | ((with_reducible refine gate_callee (f := 14) rfl ?_); refine goesL_ (some 19) rfl rfl Tryd.func14 (by kernel_rfl) rfl #[.string (rdOf ByteArray.empty l0 x12_1), .string a1] rfl (by (try simp only [List.map_toArray, List.map_cons, List.map_nil]); first | done | rfl | (simp only [List.length_drop, List.length_take]; rfl)) ?_; (with_reducible refine (host_Holds.calls k1 (rdOf ByteArray.empty l0 x12_1) a1 true _ A6.out).mono ?_); rintro e w13 ⟨rfl, hb⟩; refine ⟨_, rfl, ?_⟩; have n0_ := Aside0.mk (below_step (by repeat (first | (with_reducible first | exact HB.out | apply below_alloc | apply pw_below_drewN | apply below_drew1) | exact HB.out)) hb); clear HB; have HB := n0_; clear n0_; (try clear hb); (try clear hb2); (try clear hk); (try clear hi); have p300 : 0 ≤ (x6_1 : Int) := of_decide_eq_true (by first | (with_reducible assumption) | assumption); have q300 : x6_1 < (l0.length : Int) := of_decide_eq_true (by first | (with_reducible assumption) | assumption); obtain ⟨ad300, e300, hx300_0⟩ := Kd.at_string HR0.out x6_1 p300 q300; obtain rfl : ad298 = ad300 := (by injection e300); replace hx300_0 := (HB.out.cell (World.block_lt_of_cell? w _ hx300_0)).trans hx300_0; replace p300 := eq_true p300; replace q300 := eq_true q300) | (go_at_call 22; (with_reducible refine (host_Order.calls k1 (rdOf ByteArray.empty l0 x12_1) (rdOf ByteArray.empty l0 x6_1) t301 _ A11.out).mono ?_); rintro e w14 ⟨rfl, hb⟩; have n0_ := Aside0.mk (below_step (by repeat (first | (with_reducible first | exact HB.out | apply below_alloc | apply pw_below_drewN | apply below_drew1) | exact HB.out)) hb); clear HB; have HB := n0_; clear n0_; (try clear hb); (try clear hb2); (try clear hk); (try clear hi)))
                      go_roundg k1
                      case measure => have := HK1.out; omega
                      case rel => exact ⟨(x12_1), (true), (wrap64 (x12_1 + 1)), (by first | rfl | (simp; done) | (simp [*]; done) | (simp [bne_nil_isEmpty, beq_nil_isEmpty]; done) | (simp [*, bne_nil_isEmpty, beq_nil_isEmpty]; done)), (by first | rfl | (simp; done) | (simp [*]; done) | (simp [bne_nil_isEmpty, beq_nil_isEmpty]; done) | (simp [*, bne_nil_isEmpty, beq_nil_isEmpty]; done)), (by first | rfl | (simp; done) | (simp [*]; done) | (simp [bne_nil_isEmpty, beq_nil_isEmpty]; done) | (simp [*, bne_nil_isEmpty, beq_nil_isEmpty]; done)), H', ⟨by have := HK1.out; omega⟩, ⟨by repeat (first | (with_reducible first | exact HB.out | apply below_alloc | apply pw_below_drewN | apply below_drew1) | exact HB.out)⟩⟩
                    · rw [if_neg c12] at H
                      have c12b0 : decide (t301 < 0) = false := decide_eq_false c12
                      clear c12
                      have H' := Aside0.mk H
                      clear H
                      have p298 : 0 ≤ (x12_1 : Int) := of_decide_eq_true (by first | (with_reducible assumption) | assumption)
                      have q298 : x12_1 < (l0.length : Int) := of_decide_eq_true (by first | (with_reducible assumption) | assumption)
                      obtain ⟨ad298, e298, hx298_0⟩ := Kd.at_string HR0.out x12_1 p298 q298
                      cases e298
                      replace hx298_0 := (HB.out.cell (World.block_lt_of_cell? w _ hx298_0)).trans hx298_0
                      replace p298 := eq_true p298
                      replace q298 := eq_true q298
                      go_wp2_with (first | ((with_reducible refine gate_callee (f := 14) rfl ?_); refine goesL_ (some 19) rfl rfl Tryd.func14 (by kernel_rfl) rfl #[.string (rdOf ByteArray.empty l0 x12_1), .string a1] rfl (by (try simp only [List.map_toArray, List.map_cons, List.map_nil]); first | done | rfl | (simp only [List.length_drop, List.length_take]; rfl)) ?_; (with_reducible refine (host_Holds.calls k1 (rdOf ByteArray.empty l0 x12_1) a1 true _ A6.out).mono ?_); rintro e w15 ⟨rfl, hb⟩; refine ⟨_, rfl, ?_⟩; have n0_ := Aside0.mk (below_step (by repeat (first | (with_reducible first | exact HB.out | apply below_alloc | apply pw_below_drewN | apply below_drew1) | exact HB.out)) hb); clear HB; have HB := n0_; clear n0_; (try clear hb); (try clear hb2); (try clear hk); (try clear hi); have p300 : 0 ≤ (x6_1 : Int) := of_decide_eq_true (by first | (with_reducible assumption) | assumption); have q300 : x6_1 < (l0.length : Int) := of_decide_eq_true (by first | (with_reducible assumption) | assumption); obtain ⟨ad300, e300, hx300_0⟩ := Kd.at_string HR0.out x6_1 p300 q300; obtain rfl : ad298 = ad300 := (by injection e300); replace hx300_0 := (HB.out.cell (World.block_lt_of_cell? w _ hx300_0)).trans hx300_0; replace p300 := eq_true p300; replace q300 := eq_true q300) | (go_at_call 22; (with_reducible refine (host_Order.calls k1 (rdOf ByteArray.empty l0 x12_1) (rdOf ByteArray.empty l0 x6_1) t301 _ A11.out).mono ?_); rintro e w16 ⟨rfl, hb⟩; have n0_ := Aside0.mk (below_step (by repeat (first | (with_reducible first | exact HB.out | apply below_alloc | apply pw_below_drewN | apply below_drew1) | exact HB.out)) hb); clear HB; have HB := n0_; clear n0_; (try clear hb); (try clear hb2); (try clear hk); (try clear hi)))
                      go_roundg k1
                      case measure => have := HK1.out; omega
                      case rel => exact ⟨(x6_1), (true), (wrap64 (x12_1 + 1)), (by first | rfl | (simp; done) | (simp [*]; done) | (simp [bne_nil_isEmpty, beq_nil_isEmpty]; done) | (simp [*, bne_nil_isEmpty, beq_nil_isEmpty]; done)), (by first | rfl | (simp; done) | (simp [*]; done) | (simp [bne_nil_isEmpty, beq_nil_isEmpty]; done) | (simp [*, bne_nil_isEmpty, beq_nil_isEmpty]; done)), (by first | rfl | (simp; done) | (simp [*]; done) | (simp [bne_nil_isEmpty, beq_nil_isEmpty]; done) | (simp [*, bne_nil_isEmpty, beq_nil_isEmpty]; done)), H', ⟨by have := HK1.out; omega⟩, ⟨by repeat (first | (with_reducible first | exact HB.out | apply below_alloc | apply pw_below_drewN | apply below_drew1) | exact HB.out)⟩⟩
                  · rw [if_neg c10] at H
                    exact absurd H (by simp)
                · rw [if_neg c9] at H
                  exact absurd H (by simp)
              · replace c8 := Bool.eq_false_iff.mpr c8
                subst c8
                have H1 : (host_Best.l0 k1 l0 a1 x12_1 true l0 (l0.length : Int) (wrap64 (x12_1 + 1))) = some (r1, r2) := by rw [if_neg (show ¬ (false = true) by decide)] at H; exact H
                clear H
                have H := H1
                clear H1
                have H' := Aside0.mk H
                clear H
                have p298 : 0 ≤ (x12_1 : Int) := of_decide_eq_true (by first | (with_reducible assumption) | assumption)
                have q298 : x12_1 < (l0.length : Int) := of_decide_eq_true (by first | (with_reducible assumption) | assumption)
                obtain ⟨ad298, e298, hx298_0⟩ := Kd.at_string HR0.out x12_1 p298 q298
                cases e298
                replace hx298_0 := (HB.out.cell (World.block_lt_of_cell? w _ hx298_0)).trans hx298_0
                replace p298 := eq_true p298
                replace q298 := eq_true q298
                go_wp2_with (first | ((with_reducible refine gate_callee (f := 14) rfl ?_); refine goesL_ (some 19) rfl rfl Tryd.func14 (by kernel_rfl) rfl #[.string (rdOf ByteArray.empty l0 x12_1), .string a1] rfl (by (try simp only [List.map_toArray, List.map_cons, List.map_nil]); first | done | rfl | (simp only [List.length_drop, List.length_take]; rfl)) ?_; (with_reducible refine (host_Holds.calls k1 (rdOf ByteArray.empty l0 x12_1) a1 true _ A6.out).mono ?_); rintro e w17 ⟨rfl, hb⟩; refine ⟨_, rfl, ?_⟩; have n0_ := Aside0.mk (below_step (by repeat (first | (with_reducible first | exact HB.out | apply below_alloc | apply pw_below_drewN | apply below_drew1) | exact HB.out)) hb); clear HB; have HB := n0_; clear n0_; (try clear hb); (try clear hb2); (try clear hk); (try clear hi)))
                go_roundg k1
                case measure => have := HK1.out; omega
                case rel => exact ⟨(x12_1), (true), (wrap64 (x12_1 + 1)), (by first | rfl | (simp; done) | (simp [*]; done) | (simp [bne_nil_isEmpty, beq_nil_isEmpty]; done) | (simp [*, bne_nil_isEmpty, beq_nil_isEmpty]; done)), (by first | rfl | (simp; done) | (simp [*]; done) | (simp [bne_nil_isEmpty, beq_nil_isEmpty]; done) | (simp [*, bne_nil_isEmpty, beq_nil_isEmpty]; done)), (by first | rfl | (simp; done) | (simp [*]; done) | (simp [bne_nil_isEmpty, beq_nil_isEmpty]; done) | (simp [*, bne_nil_isEmpty, beq_nil_isEmpty]; done)), H', ⟨by have := HK1.out; omega⟩, ⟨by repeat (first | (with_reducible first | exact HB.out | apply below_alloc | apply pw_below_drewN | apply below_drew1) | exact HB.out)⟩⟩
            · replace c7 := Bool.eq_false_iff.mpr c7
              subst c7
              have H1 : (host_Best.l0 k1 l0 a1 x6_1 x7_1 l0 (l0.length : Int) (wrap64 (x12_1 + 1))) = some (r1, r2) := by rw [if_neg (show ¬ (false = true) by decide)] at H; exact H
              clear H
              have H := H1
              clear H1
              have H' := Aside0.mk H
              clear H
              have p298 : 0 ≤ (x12_1 : Int) := of_decide_eq_true (by first | (with_reducible assumption) | assumption)
              have q298 : x12_1 < (l0.length : Int) := of_decide_eq_true (by first | (with_reducible assumption) | assumption)
              obtain ⟨ad298, e298, hx298_0⟩ := Kd.at_string HR0.out x12_1 p298 q298
              cases e298
              replace hx298_0 := (HB.out.cell (World.block_lt_of_cell? w _ hx298_0)).trans hx298_0
              replace p298 := eq_true p298
              replace q298 := eq_true q298
              go_wp2_with (first | ((with_reducible refine gate_callee (f := 14) rfl ?_); refine goesL_ (some 19) rfl rfl Tryd.func14 (by kernel_rfl) rfl #[.string (rdOf ByteArray.empty l0 x12_1), .string a1] rfl (by (try simp only [List.map_toArray, List.map_cons, List.map_nil]); first | done | rfl | (simp only [List.length_drop, List.length_take]; rfl)) ?_; (with_reducible refine (host_Holds.calls k1 (rdOf ByteArray.empty l0 x12_1) a1 false _ A6.out).mono ?_); rintro e w18 ⟨rfl, hb⟩; refine ⟨_, rfl, ?_⟩; have n0_ := Aside0.mk (below_step (by repeat (first | (with_reducible first | exact HB.out | apply below_alloc | apply pw_below_drewN | apply below_drew1) | exact HB.out)) hb); clear HB; have HB := n0_; clear n0_; (try clear hb); (try clear hb2); (try clear hk); (try clear hi)))
              go_roundg k1
              case measure => have := HK1.out; omega
              case rel => exact ⟨(x6_1), (x7_1), (wrap64 (x12_1 + 1)), (by first | rfl | (simp; done) | (simp [*]; done) | (simp [bne_nil_isEmpty, beq_nil_isEmpty]; done) | (simp [*, bne_nil_isEmpty, beq_nil_isEmpty]; done)), (by first | rfl | (simp; done) | (simp [*]; done) | (simp [bne_nil_isEmpty, beq_nil_isEmpty]; done) | (simp [*, bne_nil_isEmpty, beq_nil_isEmpty]; done)), (by first | rfl | (simp; done) | (simp [*]; done) | (simp [bne_nil_isEmpty, beq_nil_isEmpty]; done) | (simp [*, bne_nil_isEmpty, beq_nil_isEmpty]; done)), H', ⟨by have := HK1.out; omega⟩, ⟨by repeat (first | (with_reducible first | exact HB.out | apply below_alloc | apply pw_below_drewN | apply below_drew1) | exact HB.out)⟩⟩
          · rw [if_neg c5] at H
            exact absurd H (by simp)
        · rw [if_neg c4] at H
          exact absurd H (by simp)
      · rw [if_neg c3] at H
        have c3b0 : decide (x12_1 < (l0.length : Int)) = false := decide_eq_false c3
        clear c3
        simp only [Option.some.injEq, Prod.mk.injEq] at H
        obtain ⟨rfl, rfl⟩ := H
        go_wp2
        go_ret2
        exact ⟨by first | rfl | (simp [errW_none, errW_some] <;> rfl) | (simp [*, errW_none, errW_some] <;> rfl), by repeat (first | (with_reducible first | exact HB.out | apply below_alloc | apply pw_below_drewN | apply below_drew1) | exact HB.out)⟩

end Go.Proofs.YtjfjmniegceejaaDoor.P
