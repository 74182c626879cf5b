/-
  toll/tolllaw03.PathOrders: for every input the law answers true, and what was handed in reads as it did. No condition beyond the statement's own.
-/
import Derived.Test.YtfnckickbpmcaaaRows
import Derived.Test.YtfnckickbpmcaaaPx0
import Derived.Test.YtfnckickbpmcaaaPx10
import Derived.Test.YtfnckickbpmcaaaPx9
import Derived.Test.YtfnckickbpmcaaaPx10
import Derived.Test.YtfnckickbpmcaaaPurePathOrders
import Derived.Test.YtfnckickbpmcaaaOpen
import Derived.Test.YtfnckickbpmcaaaWSized
import Derived.WalkKit
import Derived.ProofKit
import Derived.OpenShut
import Derived.ShutString
import Derived.ChangeOld
import Derived.Below
import Derived.SizedLaws
import Derived.WideShapes
namespace Go.Proofs.Ytfnckickbpmcaaa.pathOrders
open Go.ChangeShapes Go.WideShapes Go.ChangeAt Go.RowKit Go.Proofs.YtfnckickbpmcaaaW.PrintWords Go.Proofs.YtfnckickbpmcaaaW.PrintLast
open Go.ChangeMaps (open_string shut_string)
theorem own : ownKnob Try.prog.godebug = none := by kernel_rfl
theorem laidOut : laidOutB Try.prog = true := by kernel_rfl
theorem op23 : Open.Opens Try.prog 23 P.k23 (fun x => ((Lit.int .i64 x.f0).wf = true) ∧ (x.f1.size ≤ 140737488351232)) :=
  Open.opens_struct Try.underlying23 (by kernel_rfl) (Open.opensF_cons rfl (Open.opens_int Try.underlying3 (by kernel_rfl)) (Open.opensF_one rfl (Open.opens_string Try.underlying9 (by kernel_rfl)))) (fun (x : P.S23) => (x.f0, x.f1)) (fun y => (⟨y.1, y.2⟩ : P.S23)) (fun _ => rfl)
set_option maxRecDepth 100000 in
theorem lifted (os : Os) (started : os.Started) (H : Type) (enc : TypeId × Value → H) :
    ReturnsInHanded {} Try.checked os 8 .any (Rows.pathOrdersSpec.pre6 enc Try.prog Try.f8 Rows.pathOrdersRow.domain false) (Rows.pathOrdersSpec.post enc Try.prog Try.f8 false true false false) := by
  refine returnsInHanded_of_change_sized (C := Try.checked) own started (by kernel_rfl) Try.func8
    (ChangeSpec.witness6 (enc := enc) (C := Try.checked) false ⟨#[], #[.agg #[.int .i64 0, .string ByteArray.empty], .agg #[.int .i64 0, .string ByteArray.empty], .agg #[.int .i64 0, .string ByteArray.empty]], []⟩ 8 (by kernel_rfl) (by kernel_rfl) (by kernel_rfl) (by kernel_rfl)) ?_
  intro W base args ds gs before hval0 hW hcnd hsz0 _
  have hsz : (DataW.weightsEach Try.prog (Try.f8.params.toList ++ Rows.pathOrdersSpec.plain.varTypes Try.prog) (ds ++ gs)).all (· ≤ reachBytes) = true := hsz0
  have hval : ∀ (j : Nat) t v, Try.f8.params[j]? = some t → args[j]? = some v → Value.okWide Try.prog W .any base t v := hval0
  have hW' := hW
  obtain ⟨p, q, hA0, hV, rfl, hfz, hnd⟩ := hW
  have hA : DataW.TrodAll enc Try.prog W 0 (fun _ => true) true Try.f8.params.toList args.toList ds p := hA0
  rw [Try.params8] at hA hval hsz
  obtain ⟨v0, vs0, d0, ds0, p0, q0, hargs, rfl, rfl, h0, r0⟩ := trodAll_cons hA
  obtain ⟨v1, vs1, d1, ds1, p1, q1, rfl, rfl, rfl, h1, r1⟩ := trodAll_cons r0
  obtain ⟨v2, vs2, d2, ds2, p2, q2, rfl, rfl, rfl, h2, r2⟩ := trodAll_cons r1
  obtain ⟨rfl, rfl, rfl⟩ := trodAll_nil r2
  obtain rfl : args = #[v0, v1, v2] := by cases args; simp_all
  obtain ⟨rfl, rfl⟩ := trodVars_none hV
  have k0 := h0
  have lt0 : ∀ x ∈ p0, x.block < W.heap.size := by obtain ⟨m, hm⟩ := k0; exact DataW.trod_lt m _ _ _ hm
  obtain ⟨x0, K0, S0⟩ := op23.arg h0 hsz (j := 0) rfl rfl
  obtain ⟨cs0, rfl, _⟩ := okWide_struct Try.underlying23 (hval 0 23 v0 rfl rfl)
  obtain e0 := P.k23_open K0
  obtain rfl : cs0 = #[.int .i64 x0.f0, .string x0.f1] := by
    cases cs0
    simpa [Value.cells] using e0
  have k1 := h1
  have lt1 : ∀ x ∈ p1, x.block < W.heap.size := by obtain ⟨m, hm⟩ := k1; exact DataW.trod_lt m _ _ _ hm
  obtain ⟨x1, K1, S1⟩ := op23.arg h1 hsz (j := 1) rfl rfl
  obtain ⟨cs1, rfl, _⟩ := okWide_struct Try.underlying23 (hval 1 23 v1 rfl rfl)
  obtain e1 := P.k23_open K1
  obtain rfl : cs1 = #[.int .i64 x1.f0, .string x1.f1] := by
    cases cs1
    simpa [Value.cells] using e1
  have k2 := h2
  have lt2 : ∀ x ∈ p2, x.block < W.heap.size := by obtain ⟨m, hm⟩ := k2; exact DataW.trod_lt m _ _ _ hm
  obtain ⟨x2, K2, S2⟩ := op23.arg h2 hsz (j := 2) rfl rfl
  obtain ⟨cs2, rfl, _⟩ := okWide_struct Try.underlying23 (hval 2 23 v2 rfl rfl)
  obtain e2 := P.k23_open K2
  obtain rfl : cs2 = #[.int .i64 x2.f0, .string x2.f1] := by
    cases cs2
    simpa [Value.cells] using e2
  clear hA0 hval0 hsz0 hsz
  obtain ⟨k, hf⟩ := Pure.PathOrders x0.f0 x0.f1 x1.f0 x1.f1 x2.f0 x2.f1 S0 S1 S2
  have hcall : Calls Try.prog 8 #[.agg #[.int .i64 x0.f0, .string x0.f1], .agg #[.int .i64 x1.f0, .string x1.f1], .agg #[.int .i64 x2.f0, .string x2.f1]] W fun e W' => e = .returned (.bool true) ∧ Below W.heap.size W W' := by
    rcases hf with hf | hf
    · exact P.tolllaw03_PathOrders_g1.calls k x0.f0 x0.f1 x1.f0 x1.f1 x2.f0 x2.f1 true W  hf
    · exact P.tolllaw03_PathOrders_g2.calls k x0.f0 x0.f1 x1.f0 x1.f1 x2.f0 x2.f1 true W  hf
  refine hcall.mono fun e W' hew => ?_
  obtain ⟨he, bel0⟩ := hew
  have bel : Below W.heap.size W W' := bel0
  subst he
  exact ⟨_, rfl, _, _, _, [], _, [], hW', trodAll_mk1 (shut_bool Try.underlying4 _), (trodAll_cons_mk (Below.trod laidOut (by kernel_rfl) (of_decide_eq_true (by kernel_rfl)) k0 bel lt0) (trodAll_cons_mk (Below.trod laidOut (by kernel_rfl) (of_decide_eq_true (by kernel_rfl)) k1 bel lt1) (trodAll_cons_mk (Below.trod laidOut (by kernel_rfl) (of_decide_eq_true (by kernel_rfl)) k2 bel lt2) trodAll_mk0))), rfl, bel.frame _, fun h => by cases h⟩
theorem over : Rows.pathOrdersRow.holds Try.pinned (OpenSpec.ofChange Rows.pathOrdersSpec) :=
  OpenClaim.holds_of_wide 8 Try.f8 rfl rfl rfl rfl rfl rfl rfl ⟨rfl, rfl, rfl, rfl, rfl⟩ rfl rfl rfl rfl rfl (by kernel_rfl) Try.func8 (by kernel_rfl)
    (of_decide_eq_true (by kernel_rfl)) (by unfold Func.isWrapper; first | (rw [if_pos (by decide +kernel)]; kernel_rfl) | (rw [if_neg (by decide +kernel)]; exact ⟨rfl, rfl⟩))
    (fun os started H enc _ => lifted os started H enc)
theorem proved : Rows.PathOrdersSaid := over
#print axioms proved
end Go.Proofs.Ytfnckickbpmcaaa.pathOrders
namespace Go.Proofs.Ytfnckickbpmcaaa
/-- The row, under a short name, for the claim. -/
theorem pathOrders_holds : Rows.PathOrdersSaid := pathOrders.proved
end Go.Proofs.Ytfnckickbpmcaaa
