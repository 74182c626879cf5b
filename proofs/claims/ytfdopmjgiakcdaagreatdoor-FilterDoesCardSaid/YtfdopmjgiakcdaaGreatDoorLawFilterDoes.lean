/-
  toll/tolllaw07.FilterDoes: for every input the law answers true, and what was handed in reads as it did. No condition beyond the statement's own.
-/
import Derived.Test.YtfdopmjgiakcdaaGreatDoorRows
import Derived.Test.YtfdopmjgiakcdaaGreatDoorTie
import Derived.Test.YtfdopmjgiakcdaaGreatDoorCards
import Derived.Shelf.Vars
import Derived.Lib.LaidTab
import Derived.LaidSub
import Derived.Test.YtfdopmjgiakcdaaGreatDoorPx0
import Derived.Test.YtfdopmjgiakcdaaGreatDoorPx24
import Derived.Test.YtfdopmjgiakcdaaGreatDoorPureFilterDoes
import Derived.Test.YtfdopmjgiakcdaaGreatDoorOpen
import Derived.Test.YtfdopmjgiakcdaaGreatDoorWSized
import Derived.WalkKit
import Derived.ProofKit
import Derived.OpenShut
import Derived.ShutString
import Derived.ChangeOld
import Derived.Below
import Derived.SizedLaws
import Derived.WideShapes
import Derived.LaidMore
import Derived.Lay
import Derived.SevenTiedAt
import Derived.Stop.Joined
namespace Go.Proofs.YtfdopmjgiakcdaaGreatDoor.filterDoes
open Go.ChangeShapes Go.WideShapes Go.ChangeAt Go.RowKit Go.Proofs.YtfdopmjgiakcdaaGreatDoorW.PrintWords Go.Proofs.YtfdopmjgiakcdaaGreatDoorW.PrintLast
open Go.ChangeMaps (open_string shut_string)
theorem own : ownKnob Tryz.prog.godebug = none := by kernel_rfl
theorem laidOut : laidOutB Tryz.prog = true := by kernel_rfl
theorem op26 : Open.Opens Tryz.prog 26 P.k26 (fun x => ((Lit.int .i64 x.f0).wf = true) ∧ (x.f1.size ≤ 140737488351232) ∧ (x.f2.size ≤ 140737488351232) ∧ (x.f3.size ≤ 140737488351232) ∧ ((Lit.int .i64 x.f4).wf = true) ∧ (x.f5.size ≤ 140737488351232) ∧ (True) ∧ ((Lit.int .i64 x.f7).wf = true)) :=
  Open.opens_struct Tryz.underlying26 (by kernel_rfl) (Open.opensF_cons rfl (Open.opens_int Tryz.underlying3 (by kernel_rfl)) (Open.opensF_cons rfl (Open.opens_string Tryz.underlying9 (by kernel_rfl)) (Open.opensF_cons rfl (Open.opens_string Tryz.underlying9 (by kernel_rfl)) (Open.opensF_cons rfl (Open.opens_string Tryz.underlying9 (by kernel_rfl)) (Open.opensF_cons rfl (Open.opens_int Tryz.underlying3 (by kernel_rfl)) (Open.opensF_cons rfl (Open.opens_string Tryz.underlying9 (by kernel_rfl)) (Open.opensF_cons rfl (Open.opens_bool Tryz.underlying4 (by kernel_rfl)) (Open.opensF_one rfl (Open.opens_int Tryz.underlying3 (by kernel_rfl)))))))))) (fun (x : P.S26) => (x.f0, x.f1, x.f2, x.f3, x.f4, x.f5, x.f6, x.f7)) (fun y => (⟨y.1, y.2.1, y.2.2.1, y.2.2.2.1, y.2.2.2.2.1, y.2.2.2.2.2.1, y.2.2.2.2.2.2.1, y.2.2.2.2.2.2.2⟩ : P.S26)) (fun _ => rfl)
theorem op22 : Open.Opens Tryz.prog 22 (Kd.slice 26 P.k26) (fun l => l.length ≤ maxLen ∧ l.length * 96 ≤ 140737488351232 ∧ ∀ y ∈ l, ((Lit.int .i64 y.f0).wf = true) ∧ (y.f1.size ≤ 140737488351232) ∧ (y.f2.size ≤ 140737488351232) ∧ (y.f3.size ≤ 140737488351232) ∧ ((Lit.int .i64 y.f4).wf = true) ∧ (y.f5.size ≤ 140737488351232) ∧ (True) ∧ ((Lit.int .i64 y.f7).wf = true)) :=
  Open.opens_slice Tryz.underlying22 (by kernel_rfl) op26 (by kernel_rfl) 26
theorem op30 : Open.Opens Tryz.prog 30 P.k30 (fun x => ((Lit.int .i64 x.f0).wf = true) ∧ (x.f1.size ≤ 140737488351232)) :=
  Open.opens_struct Tryz.underlying30 (by kernel_rfl) (Open.opensF_cons rfl (Open.opens_int Tryz.underlying3 (by kernel_rfl)) (Open.opensF_one rfl (Open.opens_string Tryz.underlying9 (by kernel_rfl)))) (fun (x : P.S30) => (x.f0, x.f1)) (fun y => (⟨y.1, y.2⟩ : P.S30)) (fun _ => rfl)
theorem op59 : Open.Opens Tryz.prog 59 P.k59 (fun x => (x.f0.size ≤ 140737488351232) ∧ (x.f1.size ≤ 140737488351232)) :=
  Open.opens_struct Tryz.underlying59 (by kernel_rfl) (Open.opensF_cons rfl (Open.opens_string Tryz.underlying9 (by kernel_rfl)) (Open.opensF_one rfl (Open.opens_string Tryz.underlying9 (by kernel_rfl)))) (fun (x : P.S59) => (x.f0, x.f1)) (fun y => (⟨y.1, y.2⟩ : P.S59)) (fun _ => rfl)
theorem op31 : Open.Opens Tryz.prog 31 (Kd.slice 59 P.k59) (fun l => l.length ≤ maxLen ∧ l.length * 32 ≤ 140737488351232 ∧ ∀ y ∈ l, (y.f0.size ≤ 140737488351232) ∧ (y.f1.size ≤ 140737488351232)) :=
  Open.opens_slice Tryz.underlying31 (by kernel_rfl) op59 (by kernel_rfl) 59
theorem op33 : Open.Opens Tryz.prog 33 P.k33 (fun x => (x.f0.size ≤ 140737488351232) ∧ (x.f1.size ≤ 140737488351232) ∧ (x.f2.size ≤ 140737488351232) ∧ (x.f3.length ≤ maxLen ∧ x.f3.length * 32 ≤ 140737488351232 ∧ ∀ y ∈ x.f3, (y.f0.size ≤ 140737488351232) ∧ (y.f1.size ≤ 140737488351232)) ∧ (x.f4.length ≤ maxLen ∧ x.f4.length * 32 ≤ 140737488351232 ∧ ∀ y ∈ x.f4, (y.f0.size ≤ 140737488351232) ∧ (y.f1.size ≤ 140737488351232))) :=
  Open.opens_struct Tryz.underlying33 (by kernel_rfl) (Open.opensF_cons rfl (Open.opens_string Tryz.underlying9 (by kernel_rfl)) (Open.opensF_cons rfl (Open.opens_string Tryz.underlying9 (by kernel_rfl)) (Open.opensF_cons rfl (Open.opens_string Tryz.underlying9 (by kernel_rfl)) (Open.opensF_cons rfl op31 (Open.opensF_one rfl op31))))) (fun (x : P.S33) => (x.f0, x.f1, x.f2, x.f3, x.f4)) (fun y => (⟨y.1, y.2.1, y.2.2.1, y.2.2.2.1, y.2.2.2.2⟩ : P.S33)) (fun _ => rfl)
theorem op35 : Open.Opens Tryz.prog 35 P.k35 (fun x => (x.f0.length ≤ maxLen ∧ x.f0.length * 96 ≤ 140737488351232 ∧ ∀ y ∈ x.f0, ((Lit.int .i64 y.f0).wf = true) ∧ (y.f1.size ≤ 140737488351232) ∧ (y.f2.size ≤ 140737488351232) ∧ (y.f3.size ≤ 140737488351232) ∧ ((Lit.int .i64 y.f4).wf = true) ∧ (y.f5.size ≤ 140737488351232) ∧ (True) ∧ ((Lit.int .i64 y.f7).wf = true)) ∧ (((Lit.int .i64 x.f1.f0).wf = true) ∧ (x.f1.f1.size ≤ 140737488351232)) ∧ ((x.f2.f0.size ≤ 140737488351232) ∧ (x.f2.f1.size ≤ 140737488351232) ∧ (x.f2.f2.size ≤ 140737488351232) ∧ (x.f2.f3.length ≤ maxLen ∧ x.f2.f3.length * 32 ≤ 140737488351232 ∧ ∀ y ∈ x.f2.f3, (y.f0.size ≤ 140737488351232) ∧ (y.f1.size ≤ 140737488351232)) ∧ (x.f2.f4.length ≤ maxLen ∧ x.f2.f4.length * 32 ≤ 140737488351232 ∧ ∀ y ∈ x.f2.f4, (y.f0.size ≤ 140737488351232) ∧ (y.f1.size ≤ 140737488351232))) ∧ (True)) :=
  Open.opens_struct Tryz.underlying35 (by kernel_rfl) (Open.opensF_cons rfl op22 (Open.opensF_cons rfl op30 (Open.opensF_cons rfl op33 (Open.opensF_one rfl (Open.opens_bool Tryz.underlying4 (by kernel_rfl)))))) (fun (x : P.S35) => (x.f0, x.f1, x.f2, x.f3)) (fun y => (⟨y.1, y.2.1, y.2.2.1, y.2.2.2⟩ : P.S35)) (fun _ => rfl)
set_option maxRecDepth 100000 in
theorem lifted (os : Os) (started : os.Started) (H : Type) (enc : TypeId × Value → H) :
    ReturnsInHanded {} Tryz.checked os 4 .any (fun w args => (Rows.filterDoesSpec.pre enc Tryz.prog Tryz.f4 Rows.filterDoesRow.domain false w args ∧ laidMetH Tryz.prog Rows.filterDoesRow.laid w) ∧ sizedMet enc Tryz.prog Tryz.f4 (OpenSpec.ofChange Rows.filterDoesSpec) false w args) (Rows.filterDoesSpec.post enc Tryz.prog Tryz.f4 false true false false) := by
  refine Open.returns_shaped (C := Tryz.checked) (X := fun w _ => laidMetH Tryz.prog Rows.filterDoesRow.laid w) (fun _ _ _ hh h => h.of_heap hh) own started (by kernel_rfl) Tryz.func4
    (ChangeSpec.witness_shaped (enc := enc) (C := Tryz.checked) (os := os) (X := fun w _ => laidMetH Tryz.prog Rows.filterDoesRow.laid w) false (World.laidAll Tryz.prog os Rows.filterDoesRow.laid) #[.agg #[.slice none 0 0, .int .i64 0, .string ByteArray.empty, .string ByteArray.empty, .string ByteArray.empty, .string ByteArray.empty, .slice none 0 0, .slice none 0 0, .bool false]] 8 (World.laidAll_os _ _ _)
      (World.shaped_of_ZipB (by kernel_rfl) (by kernel_rfl)) (by kernel_rfl) (by kernel_rfl) (by kernel_rfl)
      (by rw [MakeChecks.laidMetH_plain _ _ _ (by kernel_rfl)]; exact laidMet_laidAll _ (by kernel_rfl) (by kernel_rfl))) ?_
  intro W base args ds gs before hval0 hW hcnd hsz0 hX hsh
  have hG : P.MaxL W := by
    have hl_ := laidMetH.filter (fun x => x.1 == "internal/strconv.uint64pow10") hX
    rw [show (Rows.filterDoesRow.laid.filter fun x => x.1 == "internal/strconv.uint64pow10") = [("internal/strconv.uint64pow10", Lib.tabData .u64 Lib.pow10Tab)] from by kernel_rfl, MakeChecks.laidMetH_plain _ _ _ (by kernel_rfl)] at hl_
    exact Lib.tabIs_of_head (g := (Tryz.prog.globalNamed "internal/strconv.uint64pow10").get!) (t := 127) (e := 115) (n := 20) (by kernel_rfl) (by kernel_rfl) Tryz.underlying127 Tryz.underlying115 (by kernel_rfl) (by kernel_rfl) hl_
  have hsz : (DataW.weightsEach Tryz.prog (Tryz.f4.params.toList ++ Rows.filterDoesSpec.plain.varTypes Tryz.prog) (ds ++ gs)).all (· ≤ reachBytes) = true := hsz0
  have hval : ∀ (j : Nat) t v, Tryz.f4.params[j]? = some t → args[j]? = some v → Value.okWide Tryz.prog W .any base t v := hval0
  have hW' := hW
  obtain ⟨p, q, hA0, hV, rfl, hfz, hnd⟩ := hW
  have hA : DataW.TrodAll enc Tryz.prog W 0 (fun _ => true) true Tryz.f4.params.toList args.toList ds p := hA0
  rw [Tryz.params4] at hA hval hsz
  obtain ⟨v0, vs0, d0, ds0, p0, q0, hargs, rfl, rfl, h0, r0⟩ := trodAll_cons hA
  obtain ⟨rfl, rfl, rfl⟩ := trodAll_nil r0
  obtain rfl : args = #[v0] := by cases args; simp_all
  obtain ⟨rfl, rfl⟩ := trodVars_none hV
  have k0 := h0
  have lt0 : ∀ x ∈ p0, x.block < W.heap.size := by obtain ⟨m, hm⟩ := k0; exact DataW.trod_lt m _ _ _ hm
  obtain ⟨x0, K0, S0⟩ := op35.arg h0 hsz (j := 0) rfl rfl
  obtain ⟨cs0, rfl, _⟩ := okWide_struct Tryz.underlying35 (hval 0 35 v0 rfl rfl)
  obtain ⟨A0_0, c0_0, A0_6, c0_6, A0_7, c0_7, e0, l0_0, g0_0, l0_6, g0_6, l0_7, g0_7⟩ := P.k35_open K0
  obtain rfl : cs0 = #[.slice A0_0 x0.f0.length c0_0, .int .i64 x0.f1.f0, .string x0.f1.f1, .string x0.f2.f0, .string x0.f2.f1, .string x0.f2.f2, .slice A0_6 x0.f2.f3.length c0_6, .slice A0_7 x0.f2.f4.length c0_7, .bool x0.f3] := by
    cases cs0
    simpa [Value.cells] using e0
  clear hA0 hval0 hsz0 hsz
  obtain ⟨k, hf⟩ := Pure.FilterDoes x0.f0 x0.f1.f0 x0.f1.f1 x0.f2.f0 x0.f2.f1 x0.f2.f2 x0.f2.f3 x0.f2.f4 x0.f3 S0
  refine (P.tolllaw07_FilterDoes.calls k A0_0 c0_0 x0.f0 x0.f1.f0 x0.f1.f1 x0.f2.f0 x0.f2.f1 x0.f2.f2 A0_6 c0_6 x0.f2.f3 A0_7 c0_7 x0.f2.f4 x0.f3 true W g0_0 l0_0 g0_6 l0_6 g0_7 l0_7 hG hf).mono fun e W' hew => ?_
  obtain ⟨he, bel0⟩ := hew
  have bel : Below W.heap.size W W' := bel0
  subst he
  exact ⟨_, rfl, _, _, _, [], _, [], hW', trodAll_mk1 (shut_bool Tryz.underlying4 _), (trodAll_cons_mk (Below.trod laidOut (by kernel_rfl) (of_decide_eq_true (by kernel_rfl)) k0 bel lt0) trodAll_mk0), rfl, bel.frame _, fun h => by cases h⟩
theorem over : Rows.filterDoesRow.holds Tryz.pinned (OpenSpec.ofChange Rows.filterDoesSpec) :=
  OpenClaim.holds_of_wide 4 Tryz.f4 rfl rfl rfl rfl rfl rfl rfl ⟨rfl, rfl, rfl, rfl, rfl⟩ rfl rfl rfl rfl rfl (by kernel_rfl) Tryz.func4 (by kernel_rfl)
    (of_decide_eq_true (by kernel_rfl)) (by unfold Func.isWrapper; first | (rw [if_pos (by decide +kernel)]; kernel_rfl) | (rw [if_neg (by decide +kernel)]; exact ⟨rfl, rfl⟩))
    (fun os started H enc _ => lifted os started H enc)
theorem proved : Rows.FilterDoesSaid := over
#print axioms proved
/-- The tied card. -/
theorem card : Rows.FilterDoesCardSaid :=
  Claim7.holds_tied_plain_at .later [] [.data, .data, .data, .data, .pinned] true (true, "698e22b77279bde4618dce24c54d96df392f1fdd74224fb0fd239a2efaadcc37") false over (fun _ h => by cases h) (by kernel_rfl) (fun _ h => by cases h) filterDoes_row_tie rfl ⟨rfl, rfl⟩ (by kernel_rfl) rfl
    (fun f fn hf hfn => by
      obtain rfl : f = 4 := Option.some.inj ((show Tryz.prog.funcNamed "toll/tolllaw07.FilterDoes" = some 4 by kernel_rfl).symm.trans hf) |>.symm
      obtain rfl : fn = Tryz.f4 := (Option.some.inj (Tryz.func4.symm.trans hfn)).symm
      exact ⟨by kernel_rfl, fun j t ht => by
        rw [Tryz.params4] at ht
        have hm : t ∈ [35] := by simpa using Array.mem_of_getElem? ht
        have hall : ([35].all fun u => !Tryz.prog.wantsStandIn u) = true := by kernel_rfl
        exact (show Tryz.prog.wantsStandIn t = false by simpa using List.all_eq_true.1 hall t hm)⟩)
    (by kernel_rfl)
#print axioms card
end Go.Proofs.YtfdopmjgiakcdaaGreatDoor.filterDoes
namespace Go.Proofs.YtfdopmjgiakcdaaGreatDoor
/-- The statement, under a short name, for the claim. -/
theorem filterDoes_holds : Rows.FilterDoesCardSaid := filterDoes.card
end Go.Proofs.YtfdopmjgiakcdaaGreatDoor
