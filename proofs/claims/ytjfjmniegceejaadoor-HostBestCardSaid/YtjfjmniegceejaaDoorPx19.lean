-- written by wip/tool/hprint.py of this repo: the kit's print, with contracts by hand joined; Lean checks it.
import Derived.Test.YtjfjmniegceejaaDoorPx0
import Derived.Test.YtjfjmniegceejaaDoorPx2
import Derived.Test.YtjfjmniegceejaaDoorPx7
import Derived.Test.YtjfjmniegceejaaDoorPx17
import Derived.Test.YtjfjmniegceejaaDoorPx18
namespace Go.Proofs.YtjfjmniegceejaaDoor.P
open Go.RowKit Go.Proofs.YtjfjmniegceejaaDoorW.PrintWords Go.Proofs.YtjfjmniegceejaaDoorW.PrintLast Go.Proofs.YtjfjmniegceejaaDoorW.PrintMore
attribute [local go_sem] max2_int min2_int max_two min_two max_three min_three max_four min_four   -- for this text's walks alone
set_option linter.unusedVariables false
set_option linter.unusedSimpArgs false

/-! ### tolllaw02_HostBest: function 9 -/
def tolllaw02_HostBest.f (k : Nat) (l0 : List ByteArray) (a1 : ByteArray) : Option (Bool) := (tolllaw02_few.f k l0).bind fun t310 => ((tolllaw01_Few.f a1).bind fun t313 => ((host_Best.f k t310 t313).bind fun bt314 => ((tollref02_Best.f k t310 t313).bind fun bt316 => (if bt314.1 = bt316.1 then (if (bt314.2 == bt316.2) = true then ((tolllaw02_awake.f k).bind fun t318 => (some t318)) else (none)) else (none)))))
theorem tolllaw02_HostBest.mono : ∀ a0 a1 k, LeO (tolllaw02_HostBest.f k a0 a1) (tolllaw02_HostBest.f (k + 1) a0 a1) := by
  intro a0 a1 k
  unfold tolllaw02_HostBest.f
  repeat' first
      | (with_reducible exact host_Best.mono _ _ _)
      | (with_reducible exact tolllaw02_awake.mono _)
      | (with_reducible exact tolllaw02_few.mono _ _)
      | (with_reducible exact tollref02_Best.mono _ _ _)
      | (with_reducible exact LeO.refl _)
      | (with_reducible exact LeO.none _)
      | (with_reducible refine LeO.ite ?_ ?_)
      | (with_reducible refine LeO.bind ?_ (fun _ => ?_))
      | exact host_Best.mono _ _ _
      | exact tolllaw02_awake.mono _
      | exact tolllaw02_few.mono _ _
      | exact tollref02_Best.mono _ _ _
      | exact LeO.none _
      | refine LeO.ite ?_ ?_
      | refine LeO.bind ?_ (fun _ => ?_)
set_option maxHeartbeats 8000000 in
set_option maxRecDepth 100000 in
theorem tolllaw02_HostBest.calls (k : Nat) (A0 : Option Addr) (c0 : Nat) (l0 : List ByteArray) (a1 : ByteArray) (r : Bool) (w : World) (hr0 : Kd.C Kd.string w A0 l0.length l0) (hc0 : l0.length ≤ c0) (h : tolllaw02_HostBest.f k l0 a1 = some r) :
    Calls Tryd.prog 9 #[.slice A0 l0.length c0, .string a1] w fun e w' => e = .returned (.bool r) ∧ Below w.heap.size w w' := by
  have HR0 := Aside0.mk hr0
  have HC0 := Aside0.mk hc0
  clear hr0 hc0
  have HB := Aside0.mk (Below.refl w.heap.size w)
  have H : ((tolllaw02_few.f k l0).bind fun t310 => ((tolllaw01_Few.f a1).bind fun t313 => ((host_Best.f k t310 t313).bind fun bt314 => ((tollref02_Best.f k t310 t313).bind fun bt316 => (if bt314.1 = bt316.1 then (if (bt314.2 == bt316.2) = true then ((tolllaw02_awake.f k).bind fun t318 => (some t318)) else (none)) else (none)))))) = some r := h
  clear h
  replace H := Option.bind_eq_some_iff.mp H
  obtain ⟨t310, A30, H⟩ := H
  replace H : ((tolllaw01_Few.f a1).bind fun t313 => ((host_Best.f k t310 t313).bind fun bt314 => ((tollref02_Best.f k t310 t313).bind fun bt316 => (if bt314.1 = bt316.1 then (if (bt314.2 == bt316.2) = true then ((tolllaw02_awake.f k).bind fun t318 => (some t318)) else (none)) else (none))))) = some r := H
  have A3 := Aside0.mk A30
  clear A30
  replace H := Option.bind_eq_some_iff.mp H
  obtain ⟨t313, A40, H⟩ := H
  replace H : ((host_Best.f k t310 t313).bind fun bt314 => ((tollref02_Best.f k t310 t313).bind fun bt316 => (if bt314.1 = bt316.1 then (if (bt314.2 == bt316.2) = true then ((tolllaw02_awake.f k).bind fun t318 => (some t318)) else (none)) else (none)))) = some r := H
  have A4 := Aside0.mk A40
  clear A40
  replace H := Option.bind_eq_some_iff.mp H
  obtain ⟨⟨t314, t315⟩, A50, H⟩ := H
  replace H : ((tollref02_Best.f k t310 t313).bind fun bt316 => (if t314 = bt316.1 then (if (t315 == bt316.2) = true then ((tolllaw02_awake.f k).bind fun t318 => (some t318)) else (none)) else (none))) = some r := H
  have A5 := Aside0.mk A50
  clear A50
  replace H := Option.bind_eq_some_iff.mp H
  obtain ⟨⟨t316, t317⟩, A60, H⟩ := H
  replace H : (if t314 = t316 then (if (t315 == t317) = true then ((tolllaw02_awake.f k).bind fun t318 => (some t318)) else (none)) else (none)) = some r := H
  have A6 := Aside0.mk A60
  clear A60
  by_cases c7 : t314 = t316
  · rw [if_pos c7] at H
    have c7b0 : (t314 == t316) = true := beq_iff_eq.mpr c7
    have c7b1 : (t314 != t316) = false := bne_eq_false_iff_eq.mpr c7
    clear c7
    by_cases c8 : (t315 == t317) = true
    · rw [if_pos c8] at H
      have c8b0 : (t315 == t317) = true := c8
      (try (have c8b1 : decide (t315 = t317) = true := by simpa using c8))
      (try (have c8b2 : (t315 == t317) = true := by simpa using c8))
      clear c8
      replace H := Option.bind_eq_some_iff.mp H
      obtain ⟨t318, A90, H⟩ := H
      replace H : (some t318) = some r := H
      have A9 := Aside0.mk A90
      clear A90
      obtain rfl := Option.some.inj H
      go_enter Tryd.func9, Tryd.ntmps9
      go_wp2_with (first | ((with_reducible refine gate_callee (f := 24) rfl ?_); refine goesL_ (some 10) rfl rfl Tryd.func24 (by kernel_rfl) rfl #[.slice A0 l0.length c0] rfl (by (try simp only [List.map_toArray, List.map_cons, List.map_nil]); first | done | rfl | (simp only [List.length_drop, List.length_take]; rfl)) ?_; (with_reducible refine (tolllaw02_few.calls k _ _ l0 t310 _ ?side1 ?side2 A3.out).mono ?_); (case side1 => repeat (first | exact HR0.out | (with_reducible refine Kd.C_alloc ?_ _) | (with_reducible refine Kd.C_drewN ?_ _) | (with_reducible refine Kd.C_drew ?_))); (case side2 => exact HC0.out); rintro e w10 ⟨v311, rfl, ho0, hb⟩; refine ⟨_, rfl, ?_⟩; have n0_ := Aside0.mk (Kd.R_lower ho0 (below_size (by repeat (first | (with_reducible first | exact HB.out | apply below_alloc | apply pw_below_drewN | apply below_drew1) | exact HB.out)))); have n1_ := Aside0.mk (below_step (by repeat (first | (with_reducible first | exact HB.out | apply below_alloc | apply pw_below_drewN | apply below_drew1) | exact HB.out)) hb); clear HB; have HO312 := n0_; have HB := n1_; clear n0_ n1_; (try clear hb); (try clear hb2); (try clear hk); (try clear hi); (try clear ho0)) | ((with_reducible refine gate_callee (f := 11) rfl ?_); refine goesL_ (some 12) rfl rfl Tryd.func11 (by kernel_rfl) rfl #[.string a1] rfl (by (try simp only [List.map_toArray, List.map_cons, List.map_nil]); first | done | rfl | (simp only [List.length_drop, List.length_take]; rfl)) ?_; (with_reducible refine (tolllaw01_Few.calls a1 t313 _ A4.out).mono ?_); rintro e w' ⟨rfl, ⟨nd, rfl⟩⟩; refine ⟨_, rfl, ?_⟩; obtain ⟨Ao11, co11, eo11⟩ := Kd.R_slice HO312.out; subst eo11) | ((with_reducible refine gate_callee (f := 25) rfl ?_); refine goesL_ (some 16) rfl rfl Tryd.func25 (by kernel_rfl) rfl #[.slice Ao11 t310.length co11, .string t313] rfl (by (try simp only [List.map_toArray, List.map_cons, List.map_nil]); first | done | rfl | (simp only [List.length_drop, List.length_take]; rfl)) ?_; (with_reducible refine (host_Best.calls k _ _ t310 t313 t314 t315 _ ?side1 ?side2 A5.out).mono ?_); (case side1 => repeat (first | exact (Kd.R_reads' HO312.out).2.2 | (with_reducible refine Kd.C_alloc ?_ _) | (with_reducible refine Kd.C_drewN ?_ _) | (with_reducible refine Kd.C_drew ?_))); (case side2 => exact (Kd.R_reads' HO312.out).2.1); rintro e w12 ⟨rfl, hb⟩; refine ⟨_, rfl, ?_⟩; have n0_ := Aside0.mk (Kd.R_below (by (with_reducible repeat (first | apply Kd.R_alloc | apply Kd.R_drewN | apply Kd.R_drew)); exact HO312.out) hb); have n1_ := Aside0.mk (below_step (by repeat (first | (with_reducible first | exact HB.out | apply below_alloc | apply pw_below_drewN | apply below_drew1) | exact HB.out)) hb); clear HO312; clear HB; have HO312 := n0_; have HB := n1_; clear n0_ n1_; (try clear hb); (try clear hb2); (try clear hk); (try clear hi)) | ((with_reducible refine gate_callee (f := 26) rfl ?_); refine goesL_ (some 22) rfl rfl Tryd.func26 (by kernel_rfl) rfl #[.slice Ao11 t310.length co11, .string t313] rfl (by (try simp only [List.map_toArray, List.map_cons, List.map_nil]); first | done | rfl | (simp only [List.length_drop, List.length_take]; rfl)) ?_; (with_reducible refine (tollref02_Best.calls k _ _ t310 t313 t316 t317 _ ?side1 ?side2 A6.out).mono ?_); (case side1 => repeat (first | exact (Kd.R_reads' HO312.out).2.2 | (with_reducible refine Kd.C_alloc ?_ _) | (with_reducible refine Kd.C_drewN ?_ _) | (with_reducible refine Kd.C_drew ?_))); (case side2 => exact (Kd.R_reads' HO312.out).2.1); rintro e w13 ⟨rfl, hb⟩; refine ⟨_, rfl, ?_⟩; have n0_ := Aside0.mk (Kd.R_below (by (with_reducible repeat (first | apply Kd.R_alloc | apply Kd.R_drewN | apply Kd.R_drew)); exact HO312.out) hb); have n1_ := Aside0.mk (below_step (by repeat (first | (with_reducible first | exact HB.out | apply below_alloc | apply pw_below_drewN | apply below_drew1) | exact HB.out)) hb); clear HO312; clear HB; have HO312 := n0_; have HB := n1_; clear n0_ n1_; (try clear hb); (try clear hb2); (try clear hk); (try clear hi)) | (go_at_call 16; (with_reducible refine (tolllaw02_awake.calls k  t318 _ A9.out).mono ?_); rintro e w14 ⟨rfl, hb⟩; have n0_ := Aside0.mk (Kd.R_below (by (with_reducible repeat (first | apply Kd.R_alloc | apply Kd.R_drewN | apply Kd.R_drew)); exact HO312.out) hb); have n1_ := Aside0.mk (below_step (by repeat (first | (with_reducible first | exact HB.out | apply below_alloc | apply pw_below_drewN | apply below_drew1) | exact HB.out)) hb); clear HO312; clear HB; have HO312 := n0_; have HB := n1_; clear n0_ n1_; (try clear hb); (try clear hb2); (try clear hk); (try clear hi)))
      go_ret
      exact ⟨by first | rfl | (simp [errW_none, errW_some] <;> rfl) | (simp [*, errW_none, errW_some] <;> rfl), by repeat (first | (with_reducible first | exact HB.out | apply below_alloc | apply pw_below_drewN | apply below_drew1) | exact HB.out)⟩
    · rw [if_neg c8] at H
      exact absurd H (by simp)
  · rw [if_neg c7] at H
    exact absurd H (by simp)

/-- THE ONE PURE STATEMENT of tolllaw02_HostBest. -/
def tolllaw02_HostBest.Pure : Prop := ∀ (l0 : List ByteArray) (a1 : ByteArray), (l0.length ≤ maxLen ∧ l0.length * 16 ≤ 140737488351232 ∧ ∀ y ∈ l0, y.size ≤ 140737488351232) → (a1.size ≤ 140737488351232) → ∃ k, tolllaw02_HostBest.f k l0 a1 = some true

end Go.Proofs.YtjfjmniegceejaaDoor.P
