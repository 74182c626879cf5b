/-
  toll/tolllaw05.PairsTwice: for every input the law answers true, and what was handed in reads as it did. No condition beyond the statement's own.
-/
import Derived.Test.YtglghmcdcdljoaaRows
import Derived.Test.YtglghmcdcdljoaaPx0
import Derived.Test.YtglghmcdcdljoaaPx4
import Derived.Test.YtglghmcdcdljoaaPurePairsTwice
import Derived.Test.YtglghmcdcdljoaaOpen
import Derived.Test.YtglghmcdcdljoaaWSized
import Derived.WalkKit
import Derived.ProofKit
import Derived.OpenShut
import Derived.ShutString
import Derived.ChangeOld
import Derived.Below
import Derived.SizedLaws
import Derived.WideShapes
namespace Go.Proofs.Ytglghmcdcdljoaa.pairsTwice
open Go.ChangeShapes Go.WideShapes Go.ChangeAt Go.RowKit Go.Proofs.YtglghmcdcdljoaaW.PrintWords Go.Proofs.YtglghmcdcdljoaaW.PrintLast
open Go.ChangeMaps (open_string shut_string)
theorem own : ownKnob Try.prog.godebug = none := by kernel_rfl
theorem laidOut : laidOutB Try.prog = true := by kernel_rfl
theorem op24 : Open.Opens Try.prog 24 P.k24 (fun x => (x.f0.size ≤ 140737488351232) ∧ (x.f1.size ≤ 140737488351232)) :=
  Open.opens_struct Try.underlying24 (by kernel_rfl) (Open.opensF_cons rfl (Open.opens_string Try.underlying9 (by kernel_rfl)) (Open.opensF_one rfl (Open.opens_string Try.underlying9 (by kernel_rfl)))) (fun (x : P.S24) => (x.f0, x.f1)) (fun y => (⟨y.1, y.2⟩ : P.S24)) (fun _ => rfl)
theorem op22 : Open.Opens Try.prog 22 (Kd.slice 24 P.k24) (fun l => l.length ≤ maxLen ∧ l.length * 32 ≤ 140737488351232 ∧ ∀ y ∈ l, (y.f0.size ≤ 140737488351232) ∧ (y.f1.size ≤ 140737488351232)) :=
  Open.opens_slice Try.underlying22 (by kernel_rfl) op24 (by kernel_rfl) 24
set_option maxRecDepth 100000 in
theorem lifted (os : Os) (started : os.Started) (H : Type) (enc : TypeId × Value → H) :
    ReturnsInHanded {} Try.checked os 3 .any (Rows.pairsTwiceSpec.pre6 enc Try.prog Try.f3 Rows.pairsTwiceRow.domain false) (Rows.pairsTwiceSpec.post enc Try.prog Try.f3 false true false false) := by
  refine returnsInHanded_of_change_sized (C := Try.checked) own started (by kernel_rfl) Try.func3
    (ChangeSpec.witness6 (enc := enc) (C := Try.checked) false ⟨#[], #[.slice none 0 0, .agg #[.string ByteArray.empty, .string ByteArray.empty], .agg #[.string ByteArray.empty, .string ByteArray.empty]], []⟩ 8 (by kernel_rfl) (by kernel_rfl) (by kernel_rfl) (by kernel_rfl)) ?_
  intro W base args ds gs before hval0 hW hcnd hsz0 _
  have hsz : (DataW.weightsEach Try.prog (Try.f3.params.toList ++ Rows.pairsTwiceSpec.plain.varTypes Try.prog) (ds ++ gs)).all (· ≤ reachBytes) = true := hsz0
  have hval : ∀ (j : Nat) t v, Try.f3.params[j]? = some t → args[j]? = some v → Value.okWide Try.prog W .any base t v := hval0
  have hW' := hW
  obtain ⟨p, q, hA0, hV, rfl, hfz, hnd⟩ := hW
  have hA : DataW.TrodAll enc Try.prog W 0 (fun _ => true) true Try.f3.params.toList args.toList ds p := hA0
  rw [Try.params3] at hA hval hsz
  obtain ⟨v0, vs0, d0, ds0, p0, q0, hargs, rfl, rfl, h0, r0⟩ := trodAll_cons hA
  obtain ⟨v1, vs1, d1, ds1, p1, q1, rfl, rfl, rfl, h1, r1⟩ := trodAll_cons r0
  obtain ⟨v2, vs2, d2, ds2, p2, q2, rfl, rfl, rfl, h2, r2⟩ := trodAll_cons r1
  obtain ⟨rfl, rfl, rfl⟩ := trodAll_nil r2
  obtain rfl : args = #[v0, v1, v2] := by cases args; simp_all
  obtain ⟨rfl, rfl⟩ := trodVars_none hV
  have k0 := h0
  have lt0 : ∀ x ∈ p0, x.block < W.heap.size := by obtain ⟨m, hm⟩ := k0; exact DataW.trod_lt m _ _ _ hm
  obtain ⟨x0, K0, S0⟩ := op22.arg h0 hsz (j := 0) rfl rfl
  obtain ⟨b0, len0, cap0, rfl⟩ := okWide_slice Try.underlying22 (hval 0 22 v0 rfl rfl)
  obtain ⟨A0, c0, e0, hc0, hr0⟩ := K0
  obtain ⟨rfl, rfl, rfl⟩ : A0 = b0 ∧ len0 = x0.length ∧ c0 = cap0 := by
    simp [Value.cells] at e0
    exact ⟨e0.1.symm, e0.2.1, e0.2.2.symm⟩
  have k1 := h1
  have lt1 : ∀ x ∈ p1, x.block < W.heap.size := by obtain ⟨m, hm⟩ := k1; exact DataW.trod_lt m _ _ _ hm
  obtain ⟨x1, K1, S1⟩ := op24.arg h1 hsz (j := 1) rfl rfl
  obtain ⟨cs1, rfl, _⟩ := okWide_struct Try.underlying24 (hval 1 24 v1 rfl rfl)
  obtain e1 := P.k24_open K1
  obtain rfl : cs1 = #[.string x1.f0, .string x1.f1] := by
    cases cs1
    simpa [Value.cells] using e1
  have k2 := h2
  have lt2 : ∀ x ∈ p2, x.block < W.heap.size := by obtain ⟨m, hm⟩ := k2; exact DataW.trod_lt m _ _ _ hm
  obtain ⟨x2, K2, S2⟩ := op24.arg h2 hsz (j := 2) rfl rfl
  obtain ⟨cs2, rfl, _⟩ := okWide_struct Try.underlying24 (hval 2 24 v2 rfl rfl)
  obtain e2 := P.k24_open K2
  obtain rfl : cs2 = #[.string x2.f0, .string x2.f1] := by
    cases cs2
    simpa [Value.cells] using e2
  clear hA0 hval0 hsz0 hsz
  obtain ⟨k, hf⟩ := Pure.PairsTwice x0 x1.f0 x1.f1 x2.f0 x2.f1 S0 S1 S2
  refine (P.tolllaw05_PairsTwice.calls k A0 c0 x0 x1.f0 x1.f1 x2.f0 x2.f1 true W hr0 hc0 hf).mono fun e W' hew => ?_
  obtain ⟨he, bel0⟩ := hew
  have bel : Below W.heap.size W W' := bel0
  subst he
  exact ⟨_, rfl, _, _, _, [], _, [], hW', trodAll_mk1 (shut_bool Try.underlying4 _), (trodAll_cons_mk (Below.trod laidOut (by kernel_rfl) (of_decide_eq_true (by kernel_rfl)) k0 bel lt0) (trodAll_cons_mk (Below.trod laidOut (by kernel_rfl) (of_decide_eq_true (by kernel_rfl)) k1 bel lt1) (trodAll_cons_mk (Below.trod laidOut (by kernel_rfl) (of_decide_eq_true (by kernel_rfl)) k2 bel lt2) trodAll_mk0))), rfl, bel.frame _, fun h => by cases h⟩
theorem over : Rows.pairsTwiceRow.holds Try.pinned (OpenSpec.ofChange Rows.pairsTwiceSpec) :=
  OpenClaim.holds_of_wide 3 Try.f3 rfl rfl rfl rfl rfl rfl rfl ⟨rfl, rfl, rfl, rfl, rfl⟩ rfl rfl rfl rfl rfl (by kernel_rfl) Try.func3 (by kernel_rfl)
    (of_decide_eq_true (by kernel_rfl)) (by unfold Func.isWrapper; first | (rw [if_pos (by decide +kernel)]; kernel_rfl) | (rw [if_neg (by decide +kernel)]; exact ⟨rfl, rfl⟩))
    (fun os started H enc _ => lifted os started H enc)
theorem proved : Rows.PairsTwiceSaid := over
#print axioms proved
end Go.Proofs.Ytglghmcdcdljoaa.pairsTwice
namespace Go.Proofs.Ytglghmcdcdljoaa
/-- The statement, under a short name, for the claim. -/
theorem pairsTwice_holds : Rows.PairsTwiceSaid := pairsTwice.proved
end Go.Proofs.Ytglghmcdcdljoaa
