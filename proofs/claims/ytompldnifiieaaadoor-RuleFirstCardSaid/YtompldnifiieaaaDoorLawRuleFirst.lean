/-
  toll/tolllaw06.RuleFirst: for every input the law answers true, and what was handed in reads as it did. No condition beyond the statement's own.
-/
import Derived.Test.YtompldnifiieaaaDoorRows
import Derived.Test.YtompldnifiieaaaDoorTie
import Derived.Test.YtompldnifiieaaaDoorCards
import Derived.Test.YtompldnifiieaaaDoorPx0
import Derived.Test.YtompldnifiieaaaDoorPx9
import Derived.Test.YtompldnifiieaaaDoorPx8
import Derived.Test.YtompldnifiieaaaDoorPx9
import Derived.Test.YtompldnifiieaaaDoorPureRuleFirst
import Derived.Test.YtompldnifiieaaaDoorOpen
import Derived.Test.YtompldnifiieaaaDoorWSized
import Derived.WalkKit
import Derived.ProofKit
import Derived.OpenShut
import Derived.ShutString
import Derived.ChangeOld
import Derived.Below
import Derived.SizedLaws
import Derived.WideShapes
import Derived.LaidMore
import Derived.Lay
import Derived.SevenTiedAt
import Derived.Stop.Joined
namespace Go.Proofs.YtompldnifiieaaaDoor.ruleFirst
open Go.ChangeShapes Go.WideShapes Go.ChangeAt Go.RowKit Go.Proofs.YtompldnifiieaaaDoorW.PrintWords Go.Proofs.YtompldnifiieaaaDoorW.PrintLast
open Go.ChangeMaps (open_string shut_string)
theorem own : ownKnob Tryd.prog.godebug = none := by kernel_rfl
theorem laidOut : laidOutB Tryd.prog = true := by kernel_rfl
theorem op23 : Open.Opens Tryd.prog 23 P.k23 (fun x => ((Lit.int .i64 x.f0).wf = true) ∧ (x.f1.size ≤ 140737488351232)) :=
  Open.opens_struct Tryd.underlying23 (by kernel_rfl) (Open.opensF_cons rfl (Open.opens_int Tryd.underlying3 (by kernel_rfl)) (Open.opensF_one rfl (Open.opens_string Tryd.underlying9 (by kernel_rfl)))) (fun (x : P.S23) => (x.f0, x.f1)) (fun y => (⟨y.1, y.2⟩ : P.S23)) (fun _ => rfl)
theorem op49 : Open.Opens Tryd.prog 49 P.k49 (fun x => (x.f0.size ≤ 140737488351232) ∧ (x.f1.size ≤ 140737488351232)) :=
  Open.opens_struct Tryd.underlying49 (by kernel_rfl) (Open.opensF_cons rfl (Open.opens_string Tryd.underlying9 (by kernel_rfl)) (Open.opensF_one rfl (Open.opens_string Tryd.underlying9 (by kernel_rfl)))) (fun (x : P.S49) => (x.f0, x.f1)) (fun y => (⟨y.1, y.2⟩ : P.S49)) (fun _ => rfl)
theorem op24 : Open.Opens Tryd.prog 24 (Kd.slice 49 P.k49) (fun l => l.length ≤ maxLen ∧ l.length * 32 ≤ 140737488351232 ∧ ∀ y ∈ l, (y.f0.size ≤ 140737488351232) ∧ (y.f1.size ≤ 140737488351232)) :=
  Open.opens_slice Tryd.underlying24 (by kernel_rfl) op49 (by kernel_rfl) 49
theorem op26 : Open.Opens Tryd.prog 26 P.k26 (fun x => (((Lit.int .i64 x.f0.f0).wf = true) ∧ (x.f0.f1.size ≤ 140737488351232)) ∧ (x.f1.size ≤ 140737488351232) ∧ (x.f2.length ≤ maxLen ∧ x.f2.length * 32 ≤ 140737488351232 ∧ ∀ y ∈ x.f2, (y.f0.size ≤ 140737488351232) ∧ (y.f1.size ≤ 140737488351232)) ∧ (x.f3.length ≤ maxLen ∧ x.f3.length * 32 ≤ 140737488351232 ∧ ∀ y ∈ x.f3, (y.f0.size ≤ 140737488351232) ∧ (y.f1.size ≤ 140737488351232))) :=
  Open.opens_struct Tryd.underlying26 (by kernel_rfl) (Open.opensF_cons rfl op23 (Open.opensF_cons rfl (Open.opens_string Tryd.underlying9 (by kernel_rfl)) (Open.opensF_cons rfl op24 (Open.opensF_one rfl op24)))) (fun (x : P.S26) => (x.f0, x.f1, x.f2, x.f3)) (fun y => (⟨y.1, y.2.1, y.2.2.1, y.2.2.2⟩ : P.S26)) (fun _ => rfl)
theorem op39 : Open.Opens Tryd.prog 39 (Kd.slice 26 P.k26) (fun l => l.length ≤ maxLen ∧ l.length * 88 ≤ 140737488351232 ∧ ∀ y ∈ l, (((Lit.int .i64 y.f0.f0).wf = true) ∧ (y.f0.f1.size ≤ 140737488351232)) ∧ (y.f1.size ≤ 140737488351232) ∧ (y.f2.length ≤ maxLen ∧ y.f2.length * 32 ≤ 140737488351232 ∧ ∀ yy ∈ y.f2, (yy.f0.size ≤ 140737488351232) ∧ (yy.f1.size ≤ 140737488351232)) ∧ (y.f3.length ≤ maxLen ∧ y.f3.length * 32 ≤ 140737488351232 ∧ ∀ yy ∈ y.f3, (yy.f0.size ≤ 140737488351232) ∧ (yy.f1.size ≤ 140737488351232))) :=
  Open.opens_slice Tryd.underlying39 (by kernel_rfl) op26 (by kernel_rfl) 26
theorem op28 : Open.Opens Tryd.prog 28 P.k28 (fun x => (x.f0.size ≤ 140737488351232) ∧ (x.f1.size ≤ 140737488351232) ∧ (x.f2.size ≤ 140737488351232) ∧ (x.f3.length ≤ maxLen ∧ x.f3.length * 32 ≤ 140737488351232 ∧ ∀ y ∈ x.f3, (y.f0.size ≤ 140737488351232) ∧ (y.f1.size ≤ 140737488351232)) ∧ (x.f4.length ≤ maxLen ∧ x.f4.length * 32 ≤ 140737488351232 ∧ ∀ y ∈ x.f4, (y.f0.size ≤ 140737488351232) ∧ (y.f1.size ≤ 140737488351232))) :=
  Open.opens_struct Tryd.underlying28 (by kernel_rfl) (Open.opensF_cons rfl (Open.opens_string Tryd.underlying9 (by kernel_rfl)) (Open.opensF_cons rfl (Open.opens_string Tryd.underlying9 (by kernel_rfl)) (Open.opensF_cons rfl (Open.opens_string Tryd.underlying9 (by kernel_rfl)) (Open.opensF_cons rfl op24 (Open.opensF_one rfl op24))))) (fun (x : P.S28) => (x.f0, x.f1, x.f2, x.f3, x.f4)) (fun y => (⟨y.1, y.2.1, y.2.2.1, y.2.2.2.1, y.2.2.2.2⟩ : P.S28)) (fun _ => rfl)
set_option maxRecDepth 100000 in
theorem lifted (os : Os) (started : os.Started) (H : Type) (enc : TypeId × Value → H) :
    ReturnsInHanded {} Tryd.checked os 5 .any (fun w args => (Rows.ruleFirstSpec.pre enc Tryd.prog Tryd.f5 Rows.ruleFirstRow.domain false w args ∧ laidMetH Tryd.prog Rows.ruleFirstRow.laid w) ∧ sizedMet enc Tryd.prog Tryd.f5 (OpenSpec.ofChange Rows.ruleFirstSpec) false w args) (Rows.ruleFirstSpec.post enc Tryd.prog Tryd.f5 false true false false) := by
  refine returnsInHanded_of_change_and (C := Tryd.checked) (X := fun w _ => laidMetH Tryd.prog Rows.ruleFirstRow.laid w) (fun _ _ _ hh h => h.of_heap hh) own started (by kernel_rfl) Tryd.func5
    (ChangeSpec.witness_shaped (enc := enc) (C := Tryd.checked) (os := os) (X := fun w _ => laidMetH Tryd.prog Rows.ruleFirstRow.laid w) false (World.laidAll Tryd.prog os Rows.ruleFirstRow.laid) #[.slice none 0 0, .agg #[.string ByteArray.empty, .string ByteArray.empty, .string ByteArray.empty, .slice none 0 0, .slice none 0 0], .agg #[.int .i64 0, .string ByteArray.empty, .string ByteArray.empty, .slice none 0 0, .slice none 0 0]] 8 (World.laidAll_os _ _ _)
      (World.shaped_of_ZipB (by kernel_rfl) (by kernel_rfl)) (by kernel_rfl) (by kernel_rfl) (by kernel_rfl)
      (by rw [MakeChecks.laidMetH_plain _ _ _ (by kernel_rfl)]; exact laidMet_laidAll _ (by kernel_rfl) (by kernel_rfl))) ?_
  intro W base args ds gs before hval0 hW hcnd hsz0 _ _
  have hsz : (DataW.weightsEach Tryd.prog (Tryd.f5.params.toList ++ Rows.ruleFirstSpec.plain.varTypes Tryd.prog) (ds ++ gs)).all (· ≤ reachBytes) = true := hsz0
  have hval : ∀ (j : Nat) t v, Tryd.f5.params[j]? = some t → args[j]? = some v → Value.okWide Tryd.prog W .any base t v := hval0
  have hW' := hW
  obtain ⟨p, q, hA0, hV, rfl, hfz, hnd⟩ := hW
  have hA : DataW.TrodAll enc Tryd.prog W 0 (fun _ => true) true Tryd.f5.params.toList args.toList ds p := hA0
  rw [Tryd.params5] at hA hval hsz
  obtain ⟨v0, vs0, d0, ds0, p0, q0, hargs, rfl, rfl, h0, r0⟩ := trodAll_cons hA
  obtain ⟨v1, vs1, d1, ds1, p1, q1, rfl, rfl, rfl, h1, r1⟩ := trodAll_cons r0
  obtain ⟨v2, vs2, d2, ds2, p2, q2, rfl, rfl, rfl, h2, r2⟩ := trodAll_cons r1
  obtain ⟨rfl, rfl, rfl⟩ := trodAll_nil r2
  obtain rfl : args = #[v0, v1, v2] := by cases args; simp_all
  obtain ⟨rfl, rfl⟩ := trodVars_none hV
  have k0 := h0
  have lt0 : ∀ x ∈ p0, x.block < W.heap.size := by obtain ⟨m, hm⟩ := k0; exact DataW.trod_lt m _ _ _ hm
  obtain ⟨x0, K0, S0⟩ := op39.arg h0 hsz (j := 0) rfl rfl
  obtain ⟨b0, len0, cap0, rfl⟩ := okWide_slice Tryd.underlying39 (hval 0 39 v0 rfl rfl)
  obtain ⟨A0, c0, e0, hc0, hr0⟩ := K0
  obtain ⟨rfl, rfl, rfl⟩ : A0 = b0 ∧ len0 = x0.length ∧ c0 = cap0 := by
    simp [Value.cells] at e0
    exact ⟨e0.1.symm, e0.2.1, e0.2.2.symm⟩
  have k1 := h1
  have lt1 : ∀ x ∈ p1, x.block < W.heap.size := by obtain ⟨m, hm⟩ := k1; exact DataW.trod_lt m _ _ _ hm
  obtain ⟨x1, K1, S1⟩ := op28.arg h1 hsz (j := 1) rfl rfl
  obtain ⟨cs1, rfl, _⟩ := okWide_struct Tryd.underlying28 (hval 1 28 v1 rfl rfl)
  obtain ⟨A1_3, c1_3, A1_4, c1_4, e1, l1_3, g1_3, l1_4, g1_4⟩ := P.k28_open K1
  obtain rfl : cs1 = #[.string x1.f0, .string x1.f1, .string x1.f2, .slice A1_3 x1.f3.length c1_3, .slice A1_4 x1.f4.length c1_4] := by
    cases cs1
    simpa [Value.cells] using e1
  have k2 := h2
  have lt2 : ∀ x ∈ p2, x.block < W.heap.size := by obtain ⟨m, hm⟩ := k2; exact DataW.trod_lt m _ _ _ hm
  obtain ⟨x2, K2, S2⟩ := op26.arg h2 hsz (j := 2) rfl rfl
  obtain ⟨cs2, rfl, _⟩ := okWide_struct Tryd.underlying26 (hval 2 26 v2 rfl rfl)
  obtain ⟨A2_3, c2_3, A2_4, c2_4, e2, l2_3, g2_3, l2_4, g2_4⟩ := P.k26_open K2
  obtain rfl : cs2 = #[.int .i64 x2.f0.f0, .string x2.f0.f1, .string x2.f1, .slice A2_3 x2.f2.length c2_3, .slice A2_4 x2.f3.length c2_4] := by
    cases cs2
    simpa [Value.cells] using e2
  clear hA0 hval0 hsz0 hsz
  obtain ⟨k, hf⟩ := Pure.RuleFirst x0 x1.f0 x1.f1 x1.f2 x1.f3 x1.f4 x2.f0.f0 x2.f0.f1 x2.f1 x2.f2 x2.f3 S0 S1 S2
  have hcall : Calls Tryd.prog 5 #[.slice A0 x0.length c0, .agg #[.string x1.f0, .string x1.f1, .string x1.f2, .slice A1_3 x1.f3.length c1_3, .slice A1_4 x1.f4.length c1_4], .agg #[.int .i64 x2.f0.f0, .string x2.f0.f1, .string x2.f1, .slice A2_3 x2.f2.length c2_3, .slice A2_4 x2.f3.length c2_4]] W fun e W' => e = .returned (.bool true) ∧ Below W.heap.size W W' := by
    rcases hf with hf | hf
    · exact P.tolllaw06_RuleFirst_g1.calls k A0 c0 x0 x1.f0 x1.f1 x1.f2 A1_3 c1_3 x1.f3 A1_4 c1_4 x1.f4 x2.f0.f0 x2.f0.f1 x2.f1 A2_3 c2_3 x2.f2 A2_4 c2_4 x2.f3 true W hr0 hc0 g1_3 l1_3 g1_4 l1_4 g2_3 l2_3 g2_4 l2_4 hf
    · exact P.tolllaw06_RuleFirst_g2.calls k A0 c0 x0 x1.f0 x1.f1 x1.f2 A1_3 c1_3 x1.f3 A1_4 c1_4 x1.f4 x2.f0.f0 x2.f0.f1 x2.f1 A2_3 c2_3 x2.f2 A2_4 c2_4 x2.f3 true W hr0 hc0 g1_3 l1_3 g1_4 l1_4 g2_3 l2_3 g2_4 l2_4 hf
  refine hcall.mono fun e W' hew => ?_
  obtain ⟨he, bel0⟩ := hew
  have bel : Below W.heap.size W W' := bel0
  subst he
  exact ⟨_, rfl, _, _, _, [], _, [], hW', trodAll_mk1 (shut_bool Tryd.underlying4 _), (trodAll_cons_mk (Below.trod laidOut (by kernel_rfl) (of_decide_eq_true (by kernel_rfl)) k0 bel lt0) (trodAll_cons_mk (Below.trod laidOut (by kernel_rfl) (of_decide_eq_true (by kernel_rfl)) k1 bel lt1) (trodAll_cons_mk (Below.trod laidOut (by kernel_rfl) (of_decide_eq_true (by kernel_rfl)) k2 bel lt2) trodAll_mk0))), rfl, bel.frame _, fun h => by cases h⟩
theorem over : Rows.ruleFirstRow.holds Tryd.pinned (OpenSpec.ofChange Rows.ruleFirstSpec) :=
  OpenClaim.holds_of_wide 5 Tryd.f5 rfl rfl rfl rfl rfl rfl rfl ⟨rfl, rfl, rfl, rfl, rfl⟩ rfl rfl rfl rfl rfl (by kernel_rfl) Tryd.func5 (by kernel_rfl)
    (of_decide_eq_true (by kernel_rfl)) (by unfold Func.isWrapper; first | (rw [if_pos (by decide +kernel)]; kernel_rfl) | (rw [if_neg (by decide +kernel)]; exact ⟨rfl, rfl⟩))
    (fun os started H enc _ => lifted os started H enc)
theorem proved : Rows.RuleFirstSaid := over
#print axioms proved
/-- The tied card. -/
theorem card : Rows.RuleFirstCardSaid :=
  Claim7.holds_tied_plain_at .later [] [.data, .pinned] true (true, "3fa56adf22e1458633310c33cfa1de82d74530d3a0c7c028779dc305619f56b4") false over (fun _ h => by cases h) (by kernel_rfl) (fun _ h => by cases h) ruleFirst_row_tie rfl ⟨rfl, rfl⟩ (by kernel_rfl) rfl
    (fun f fn hf hfn => by
      obtain rfl : f = 5 := Option.some.inj ((show Tryd.prog.funcNamed "toll/tolllaw06.RuleFirst" = some 5 by kernel_rfl).symm.trans hf) |>.symm
      obtain rfl : fn = Tryd.f5 := (Option.some.inj (Tryd.func5.symm.trans hfn)).symm
      exact ⟨by kernel_rfl, fun j t ht => by
        rw [Tryd.params5] at ht
        have hm : t ∈ [39, 28, 26] := by simpa using Array.mem_of_getElem? ht
        have hall : ([39, 28, 26].all fun u => !Tryd.prog.wantsStandIn u) = true := by kernel_rfl
        exact (show Tryd.prog.wantsStandIn t = false by simpa using List.all_eq_true.1 hall t hm)⟩)
    (by kernel_rfl)
#print axioms card
end Go.Proofs.YtompldnifiieaaaDoor.ruleFirst
namespace Go.Proofs.YtompldnifiieaaaDoor
/-- The statement, under a short name, for the claim. -/
theorem ruleFirst_holds : Rows.RuleFirstCardSaid := ruleFirst.card
end Go.Proofs.YtompldnifiieaaaDoor
