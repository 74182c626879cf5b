/-
  toll/tolllaw05.PairsOnce: for every input the law answers true, and what was handed in reads as it did. No condition beyond the statement's own.
-/
import Derived.Test.YtnldeohdojemlaaRows
import Derived.Test.YtnldeohdojemlaaPx0
import Derived.Test.YtnldeohdojemlaaPx8
import Derived.Test.YtnldeohdojemlaaPurePairsOnce
import Derived.Test.YtnldeohdojemlaaOpen
import Derived.Test.YtnldeohdojemlaaWSized
import Derived.WalkKit
import Derived.ProofKit
import Derived.OpenShut
import Derived.ShutString
import Derived.ChangeOld
import Derived.Below
import Derived.SizedLaws
import Derived.WideShapes
namespace Go.Proofs.Ytnldeohdojemlaa.pairsOnce
open Go.ChangeShapes Go.WideShapes Go.ChangeAt Go.RowKit Go.Proofs.YtnldeohdojemlaaW.PrintWords Go.Proofs.YtnldeohdojemlaaW.PrintLast
open Go.ChangeMaps (open_string shut_string)
theorem own : ownKnob Try.prog.godebug = none := by kernel_rfl
theorem laidOut : laidOutB Try.prog = true := by kernel_rfl
theorem op29 : Open.Opens Try.prog 29 P.k29 (fun x => (x.f0.size ≤ 140737488351232) ∧ (x.f1.size ≤ 140737488351232)) :=
  Open.opens_struct Try.underlying29 (by kernel_rfl) (Open.opensF_cons rfl (Open.opens_string Try.underlying9 (by kernel_rfl)) (Open.opensF_one rfl (Open.opens_string Try.underlying9 (by kernel_rfl)))) (fun (x : P.S29) => (x.f0, x.f1)) (fun y => (⟨y.1, y.2⟩ : P.S29)) (fun _ => rfl)
theorem op22 : Open.Opens Try.prog 22 (Kd.slice 29 P.k29) (fun l => l.length ≤ maxLen ∧ l.length * 32 ≤ 140737488351232 ∧ ∀ y ∈ l, (y.f0.size ≤ 140737488351232) ∧ (y.f1.size ≤ 140737488351232)) :=
  Open.opens_slice Try.underlying22 (by kernel_rfl) op29 (by kernel_rfl) 29
theorem op40 : Open.Opens Try.prog 40 P.k40 (fun x => (x.f0.length ≤ maxLen ∧ x.f0.length * 32 ≤ 140737488351232 ∧ ∀ y ∈ x.f0, (y.f0.size ≤ 140737488351232) ∧ (y.f1.size ≤ 140737488351232)) ∧ (x.f1.size ≤ 140737488351232) ∧ (x.f2.size ≤ 140737488351232) ∧ (x.f3.size ≤ 140737488351232)) :=
  Open.opens_struct Try.underlying40 (by kernel_rfl) (Open.opensF_cons rfl op22 (Open.opensF_cons rfl (Open.opens_string Try.underlying9 (by kernel_rfl)) (Open.opensF_cons rfl (Open.opens_string Try.underlying9 (by kernel_rfl)) (Open.opensF_one rfl (Open.opens_string Try.underlying9 (by kernel_rfl)))))) (fun (x : P.S40) => (x.f0, x.f1, x.f2, x.f3)) (fun y => (⟨y.1, y.2.1, y.2.2.1, y.2.2.2⟩ : P.S40)) (fun _ => rfl)
set_option maxRecDepth 100000 in
theorem lifted (os : Os) (started : os.Started) (H : Type) (enc : TypeId × Value → H) :
    ReturnsInHanded {} Try.checked os 7 .any (Rows.pairsOnceSpec.pre6 enc Try.prog Try.f7 Rows.pairsOnceRow.domain false) (Rows.pairsOnceSpec.post enc Try.prog Try.f7 false true false false) := by
  refine returnsInHanded_of_change_sized (C := Try.checked) own started (by kernel_rfl) Try.func7
    (ChangeSpec.witness6 (enc := enc) (C := Try.checked) false ⟨#[], #[.agg #[.slice none 0 0, .string ByteArray.empty, .string ByteArray.empty, .string ByteArray.empty]], []⟩ 8 (by kernel_rfl) (by kernel_rfl) (by kernel_rfl) (by kernel_rfl)) ?_
  intro W base args ds gs before hval0 hW hcnd hsz0 _
  have hsz : (DataW.weightsEach Try.prog (Try.f7.params.toList ++ Rows.pairsOnceSpec.plain.varTypes Try.prog) (ds ++ gs)).all (· ≤ reachBytes) = true := hsz0
  have hval : ∀ (j : Nat) t v, Try.f7.params[j]? = some t → args[j]? = some v → Value.okWide Try.prog W .any base t v := hval0
  have hW' := hW
  obtain ⟨p, q, hA0, hV, rfl, hfz, hnd⟩ := hW
  have hA : DataW.TrodAll enc Try.prog W 0 (fun _ => true) true Try.f7.params.toList args.toList ds p := hA0
  rw [Try.params7] at hA hval hsz
  obtain ⟨v0, vs0, d0, ds0, p0, q0, hargs, rfl, rfl, h0, r0⟩ := trodAll_cons hA
  obtain ⟨rfl, rfl, rfl⟩ := trodAll_nil r0
  obtain rfl : args = #[v0] := by cases args; simp_all
  obtain ⟨rfl, rfl⟩ := trodVars_none hV
  have k0 := h0
  have lt0 : ∀ x ∈ p0, x.block < W.heap.size := by obtain ⟨m, hm⟩ := k0; exact DataW.trod_lt m _ _ _ hm
  obtain ⟨x0, K0, S0⟩ := op40.arg h0 hsz (j := 0) rfl rfl
  obtain ⟨cs0, rfl, _⟩ := okWide_struct Try.underlying40 (hval 0 40 v0 rfl rfl)
  obtain ⟨A0_0, c0_0, e0, l0_0, g0_0⟩ := P.k40_open K0
  obtain rfl : cs0 = #[.slice A0_0 x0.f0.length c0_0, .string x0.f1, .string x0.f2, .string x0.f3] := by
    cases cs0
    simpa [Value.cells] using e0
  clear hA0 hval0 hsz0 hsz
  obtain ⟨k, hf⟩ := Pure.PairsOnce x0.f0 x0.f1 x0.f2 x0.f3 S0
  refine (P.tolllaw05_PairsOnce.calls k A0_0 c0_0 x0.f0 x0.f1 x0.f2 x0.f3 true W g0_0 l0_0 hf).mono fun e W' hew => ?_
  obtain ⟨he, bel0⟩ := hew
  have bel : Below W.heap.size W W' := bel0
  subst he
  exact ⟨_, rfl, _, _, _, [], _, [], hW', trodAll_mk1 (shut_bool Try.underlying4 _), (trodAll_cons_mk (Below.trod laidOut (by kernel_rfl) (of_decide_eq_true (by kernel_rfl)) k0 bel lt0) trodAll_mk0), rfl, bel.frame _, fun h => by cases h⟩
theorem over : Rows.pairsOnceRow.holds Try.pinned (OpenSpec.ofChange Rows.pairsOnceSpec) :=
  OpenClaim.holds_of_wide 7 Try.f7 rfl rfl rfl rfl rfl rfl rfl ⟨rfl, rfl, rfl, rfl, rfl⟩ rfl rfl rfl rfl rfl (by kernel_rfl) Try.func7 (by kernel_rfl)
    (of_decide_eq_true (by kernel_rfl)) (by unfold Func.isWrapper; first | (rw [if_pos (by decide +kernel)]; kernel_rfl) | (rw [if_neg (by decide +kernel)]; exact ⟨rfl, rfl⟩))
    (fun os started H enc _ => lifted os started H enc)
theorem proved : Rows.PairsOnceSaid := over
#print axioms proved
end Go.Proofs.Ytnldeohdojemlaa.pairsOnce
namespace Go.Proofs.Ytnldeohdojemlaa
/-- The row, under a short name, for the claim. -/
theorem pairsOnce_holds : Rows.PairsOnceSaid := pairsOnce.proved
end Go.Proofs.Ytnldeohdojemlaa
