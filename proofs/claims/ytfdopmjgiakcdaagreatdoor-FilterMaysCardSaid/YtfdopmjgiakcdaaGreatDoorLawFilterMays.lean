/-
  toll/tolllaw07.FilterMays: for every input the law answers true, and what was handed in reads as it did. No condition beyond the statement's own.
-/
import Derived.Test.YtfdopmjgiakcdaaGreatDoorRows
import Derived.Test.YtfdopmjgiakcdaaGreatDoorTie
import Derived.Test.YtfdopmjgiakcdaaGreatDoorCards
import Derived.Shelf.Vars
import Derived.Lib.LaidTab
import Derived.LaidSub
import Derived.Test.YtfdopmjgiakcdaaGreatDoorPx0
import Derived.Test.YtfdopmjgiakcdaaGreatDoorPx19
import Derived.Test.YtfdopmjgiakcdaaGreatDoorPureFilterMays
import Derived.Test.YtfdopmjgiakcdaaGreatDoorOpen
import Derived.Test.YtfdopmjgiakcdaaGreatDoorWSized
import Derived.WalkKit
import Derived.ProofKit
import Derived.OpenShut
import Derived.ShutString
import Derived.ChangeOld
import Derived.Below
import Derived.SizedLaws
import Derived.WideShapes
import Derived.LaidMore
import Derived.Lay
import Derived.SevenTiedAt
import Derived.Stop.Joined
namespace Go.Proofs.YtfdopmjgiakcdaaGreatDoor.filterMays
open Go.ChangeShapes Go.WideShapes Go.ChangeAt Go.RowKit Go.Proofs.YtfdopmjgiakcdaaGreatDoorW.PrintWords Go.Proofs.YtfdopmjgiakcdaaGreatDoorW.PrintLast
open Go.ChangeMaps (open_string shut_string)
theorem own : ownKnob Tryz.prog.godebug = none := by kernel_rfl
theorem laidOut : laidOutB Tryz.prog = true := by kernel_rfl
theorem op26 : Open.Opens Tryz.prog 26 P.k26 (fun x => ((Lit.int .i64 x.f0).wf = true) ∧ (x.f1.size ≤ 140737488351232) ∧ (x.f2.size ≤ 140737488351232) ∧ (x.f3.size ≤ 140737488351232) ∧ ((Lit.int .i64 x.f4).wf = true) ∧ (x.f5.size ≤ 140737488351232) ∧ (True) ∧ ((Lit.int .i64 x.f7).wf = true)) :=
  Open.opens_struct Tryz.underlying26 (by kernel_rfl) (Open.opensF_cons rfl (Open.opens_int Tryz.underlying3 (by kernel_rfl)) (Open.opensF_cons rfl (Open.opens_string Tryz.underlying9 (by kernel_rfl)) (Open.opensF_cons rfl (Open.opens_string Tryz.underlying9 (by kernel_rfl)) (Open.opensF_cons rfl (Open.opens_string Tryz.underlying9 (by kernel_rfl)) (Open.opensF_cons rfl (Open.opens_int Tryz.underlying3 (by kernel_rfl)) (Open.opensF_cons rfl (Open.opens_string Tryz.underlying9 (by kernel_rfl)) (Open.opensF_cons rfl (Open.opens_bool Tryz.underlying4 (by kernel_rfl)) (Open.opensF_one rfl (Open.opens_int Tryz.underlying3 (by kernel_rfl)))))))))) (fun (x : P.S26) => (x.f0, x.f1, x.f2, x.f3, x.f4, x.f5, x.f6, x.f7)) (fun y => (⟨y.1, y.2.1, y.2.2.1, y.2.2.2.1, y.2.2.2.2.1, y.2.2.2.2.2.1, y.2.2.2.2.2.2.1, y.2.2.2.2.2.2.2⟩ : P.S26)) (fun _ => rfl)
theorem op22 : Open.Opens Tryz.prog 22 (Kd.slice 26 P.k26) (fun l => l.length ≤ maxLen ∧ l.length * 96 ≤ 140737488351232 ∧ ∀ y ∈ l, ((Lit.int .i64 y.f0).wf = true) ∧ (y.f1.size ≤ 140737488351232) ∧ (y.f2.size ≤ 140737488351232) ∧ (y.f3.size ≤ 140737488351232) ∧ ((Lit.int .i64 y.f4).wf = true) ∧ (y.f5.size ≤ 140737488351232) ∧ (True) ∧ ((Lit.int .i64 y.f7).wf = true)) :=
  Open.opens_slice Tryz.underlying22 (by kernel_rfl) op26 (by kernel_rfl) 26
set_option maxRecDepth 100000 in
theorem lifted (os : Os) (started : os.Started) (H : Type) (enc : TypeId × Value → H) :
    ReturnsInHanded {} Tryz.checked os 3 .any (fun w args => (Rows.filterMaysSpec.pre enc Tryz.prog Tryz.f3 Rows.filterMaysRow.domain false w args ∧ laidMetH Tryz.prog Rows.filterMaysRow.laid w) ∧ sizedMet enc Tryz.prog Tryz.f3 (OpenSpec.ofChange Rows.filterMaysSpec) false w args) (Rows.filterMaysSpec.post enc Tryz.prog Tryz.f3 false true false false) := by
  refine Open.returns_shaped (C := Tryz.checked) (X := fun w _ => laidMetH Tryz.prog Rows.filterMaysRow.laid w) (fun _ _ _ hh h => h.of_heap hh) own started (by kernel_rfl) Tryz.func3
    (ChangeSpec.witness_shaped (enc := enc) (C := Tryz.checked) (os := os) (X := fun w _ => laidMetH Tryz.prog Rows.filterMaysRow.laid w) false (World.laidAll Tryz.prog os Rows.filterMaysRow.laid) #[.slice none 0 0] 8 (World.laidAll_os _ _ _)
      (World.shaped_of_ZipB (by kernel_rfl) (by kernel_rfl)) (by kernel_rfl) (by kernel_rfl) (by kernel_rfl)
      (by rw [MakeChecks.laidMetH_plain _ _ _ (by kernel_rfl)]; exact laidMet_laidAll _ (by kernel_rfl) (by kernel_rfl))) ?_
  intro W base args ds gs before hval0 hW hcnd hsz0 hX hsh
  have hG : P.MaxL W := by
    have hl_ := laidMetH.filter (fun x => x.1 == "internal/strconv.uint64pow10") hX
    rw [show (Rows.filterMaysRow.laid.filter fun x => x.1 == "internal/strconv.uint64pow10") = [("internal/strconv.uint64pow10", Lib.tabData .u64 Lib.pow10Tab)] from by kernel_rfl, MakeChecks.laidMetH_plain _ _ _ (by kernel_rfl)] at hl_
    exact Lib.tabIs_of_head (g := (Tryz.prog.globalNamed "internal/strconv.uint64pow10").get!) (t := 127) (e := 115) (n := 20) (by kernel_rfl) (by kernel_rfl) Tryz.underlying127 Tryz.underlying115 (by kernel_rfl) (by kernel_rfl) hl_
  have hsz : (DataW.weightsEach Tryz.prog (Tryz.f3.params.toList ++ Rows.filterMaysSpec.plain.varTypes Tryz.prog) (ds ++ gs)).all (· ≤ reachBytes) = true := hsz0
  have hval : ∀ (j : Nat) t v, Tryz.f3.params[j]? = some t → args[j]? = some v → Value.okWide Tryz.prog W .any base t v := hval0
  have hW' := hW
  obtain ⟨p, q, hA0, hV, rfl, hfz, hnd⟩ := hW
  have hA : DataW.TrodAll enc Tryz.prog W 0 (fun _ => true) true Tryz.f3.params.toList args.toList ds p := hA0
  rw [Tryz.params3] at hA hval hsz
  obtain ⟨v0, vs0, d0, ds0, p0, q0, hargs, rfl, rfl, h0, r0⟩ := trodAll_cons hA
  obtain ⟨rfl, rfl, rfl⟩ := trodAll_nil r0
  obtain rfl : args = #[v0] := by cases args; simp_all
  obtain ⟨rfl, rfl⟩ := trodVars_none hV
  have k0 := h0
  have lt0 : ∀ x ∈ p0, x.block < W.heap.size := by obtain ⟨m, hm⟩ := k0; exact DataW.trod_lt m _ _ _ hm
  obtain ⟨x0, K0, S0⟩ := op22.arg h0 hsz (j := 0) rfl rfl
  obtain ⟨b0, len0, cap0, rfl⟩ := okWide_slice Tryz.underlying22 (hval 0 22 v0 rfl rfl)
  obtain ⟨A0, c0, e0, hc0, hr0⟩ := K0
  obtain ⟨rfl, rfl, rfl⟩ : A0 = b0 ∧ len0 = x0.length ∧ c0 = cap0 := by
    simp [Value.cells] at e0
    exact ⟨e0.1.symm, e0.2.1, e0.2.2.symm⟩
  clear hA0 hval0 hsz0 hsz
  obtain ⟨k, hf⟩ := Pure.FilterMays x0 S0
  refine (P.tolllaw07_FilterMays.calls k A0 c0 x0 true W hr0 hc0 hG hf).mono fun e W' hew => ?_
  obtain ⟨he, bel0⟩ := hew
  have bel : Below W.heap.size W W' := bel0
  subst he
  exact ⟨_, rfl, _, _, _, [], _, [], hW', trodAll_mk1 (shut_bool Tryz.underlying4 _), (trodAll_cons_mk (Below.trod laidOut (by kernel_rfl) (of_decide_eq_true (by kernel_rfl)) k0 bel lt0) trodAll_mk0), rfl, bel.frame _, fun h => by cases h⟩
theorem over : Rows.filterMaysRow.holds Tryz.pinned (OpenSpec.ofChange Rows.filterMaysSpec) :=
  OpenClaim.holds_of_wide 3 Tryz.f3 rfl rfl rfl rfl rfl rfl rfl ⟨rfl, rfl, rfl, rfl, rfl⟩ rfl rfl rfl rfl rfl (by kernel_rfl) Tryz.func3 (by kernel_rfl)
    (of_decide_eq_true (by kernel_rfl)) (by unfold Func.isWrapper; first | (rw [if_pos (by decide +kernel)]; kernel_rfl) | (rw [if_neg (by decide +kernel)]; exact ⟨rfl, rfl⟩))
    (fun os started H enc _ => lifted os started H enc)
theorem proved : Rows.FilterMaysSaid := over
#print axioms proved
/-- The tied card. -/
theorem card : Rows.FilterMaysCardSaid :=
  Claim7.holds_tied_plain_at .later [] [.data, .data, .data, .data, .pinned] true (true, "698e22b77279bde4618dce24c54d96df392f1fdd74224fb0fd239a2efaadcc37") false over (fun _ h => by cases h) (by kernel_rfl) (fun _ h => by cases h) filterMays_row_tie rfl ⟨rfl, rfl⟩ (by kernel_rfl) rfl
    (fun f fn hf hfn => by
      obtain rfl : f = 3 := Option.some.inj ((show Tryz.prog.funcNamed "toll/tolllaw07.FilterMays" = some 3 by kernel_rfl).symm.trans hf) |>.symm
      obtain rfl : fn = Tryz.f3 := (Option.some.inj (Tryz.func3.symm.trans hfn)).symm
      exact ⟨by kernel_rfl, fun j t ht => by
        rw [Tryz.params3] at ht
        have hm : t ∈ [22] := by simpa using Array.mem_of_getElem? ht
        have hall : ([22].all fun u => !Tryz.prog.wantsStandIn u) = true := by kernel_rfl
        exact (show Tryz.prog.wantsStandIn t = false by simpa using List.all_eq_true.1 hall t hm)⟩)
    (by kernel_rfl)
#print axioms card
end Go.Proofs.YtfdopmjgiakcdaaGreatDoor.filterMays
namespace Go.Proofs.YtfdopmjgiakcdaaGreatDoor
/-- The statement, under a short name, for the claim. -/
theorem filterMays_holds : Rows.FilterMaysCardSaid := filterMays.card
end Go.Proofs.YtfdopmjgiakcdaaGreatDoor
