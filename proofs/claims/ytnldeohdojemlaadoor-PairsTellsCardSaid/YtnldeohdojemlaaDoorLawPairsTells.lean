/-
  toll/tolllaw05.PairsTells: for every input the law answers true, and what was handed in reads as it did. No condition beyond the statement's own.
-/
import Derived.Test.YtnldeohdojemlaaDoorRows
import Derived.Test.YtnldeohdojemlaaDoorTie
import Derived.Test.YtnldeohdojemlaaDoorCards
import Derived.Test.YtnldeohdojemlaaDoorPx0
import Derived.Test.YtnldeohdojemlaaDoorPx8
import Derived.Test.YtnldeohdojemlaaDoorPurePairsTells
import Derived.Test.YtnldeohdojemlaaDoorOpen
import Derived.Test.YtnldeohdojemlaaDoorWSized
import Derived.WalkKit
import Derived.ProofKit
import Derived.OpenShut
import Derived.ShutString
import Derived.ChangeOld
import Derived.Below
import Derived.SizedLaws
import Derived.WideShapes
import Derived.LaidMore
import Derived.Lay
import Derived.SevenTiedAt
import Derived.Stop.Joined
namespace Go.Proofs.YtnldeohdojemlaaDoor.pairsTells
open Go.ChangeShapes Go.WideShapes Go.ChangeAt Go.RowKit Go.Proofs.YtnldeohdojemlaaDoorW.PrintWords Go.Proofs.YtnldeohdojemlaaDoorW.PrintLast
open Go.ChangeMaps (open_string shut_string)
theorem own : ownKnob Tryd.prog.godebug = none := by kernel_rfl
theorem laidOut : laidOutB Tryd.prog = true := by kernel_rfl
theorem op35 : Open.Opens Tryd.prog 35 P.k35 (fun x => (x.f0.size ≤ 140737488351232) ∧ (x.f1.size ≤ 140737488351232)) :=
  Open.opens_struct Tryd.underlying35 (by kernel_rfl) (Open.opensF_cons rfl (Open.opens_string Tryd.underlying9 (by kernel_rfl)) (Open.opensF_one rfl (Open.opens_string Tryd.underlying9 (by kernel_rfl)))) (fun (x : P.S35) => (x.f0, x.f1)) (fun y => (⟨y.1, y.2⟩ : P.S35)) (fun _ => rfl)
theorem op22 : Open.Opens Tryd.prog 22 (Kd.slice 35 P.k35) (fun l => l.length ≤ maxLen ∧ l.length * 32 ≤ 140737488351232 ∧ ∀ y ∈ l, (y.f0.size ≤ 140737488351232) ∧ (y.f1.size ≤ 140737488351232)) :=
  Open.opens_slice Tryd.underlying22 (by kernel_rfl) op35 (by kernel_rfl) 35
set_option maxRecDepth 100000 in
theorem lifted (os : Os) (started : os.Started) (H : Type) (enc : TypeId × Value → H) :
    ReturnsInHanded {} Tryd.checked os 3 .any (fun w args => (Rows.pairsTellsSpec.pre enc Tryd.prog Tryd.f3 Rows.pairsTellsRow.domain false w args ∧ laidMetH Tryd.prog Rows.pairsTellsRow.laid w) ∧ sizedMet enc Tryd.prog Tryd.f3 (OpenSpec.ofChange Rows.pairsTellsSpec) false w args) (Rows.pairsTellsSpec.post enc Tryd.prog Tryd.f3 false true false false) := by
  refine returnsInHanded_of_change_and (C := Tryd.checked) (X := fun w _ => laidMetH Tryd.prog Rows.pairsTellsRow.laid w) (fun _ _ _ hh h => h.of_heap hh) own started (by kernel_rfl) Tryd.func3
    (ChangeSpec.witness_shaped (enc := enc) (C := Tryd.checked) (os := os) (X := fun w _ => laidMetH Tryd.prog Rows.pairsTellsRow.laid w) false (World.laidAll Tryd.prog os Rows.pairsTellsRow.laid) #[.slice none 0 0, .string ByteArray.empty, .string ByteArray.empty] 8 (World.laidAll_os _ _ _)
      (World.shaped_of_ZipB (by kernel_rfl) (by kernel_rfl)) (by kernel_rfl) (by kernel_rfl) (by kernel_rfl)
      (by rw [MakeChecks.laidMetH_plain _ _ _ (by kernel_rfl)]; exact laidMet_laidAll _ (by kernel_rfl) (by kernel_rfl))) ?_
  intro W base args ds gs before hval0 hW hcnd hsz0 _ _
  have hsz : (DataW.weightsEach Tryd.prog (Tryd.f3.params.toList ++ Rows.pairsTellsSpec.plain.varTypes Tryd.prog) (ds ++ gs)).all (· ≤ reachBytes) = true := hsz0
  have hval : ∀ (j : Nat) t v, Tryd.f3.params[j]? = some t → args[j]? = some v → Value.okWide Tryd.prog W .any base t v := hval0
  have hW' := hW
  obtain ⟨p, q, hA0, hV, rfl, hfz, hnd⟩ := hW
  have hA : DataW.TrodAll enc Tryd.prog W 0 (fun _ => true) true Tryd.f3.params.toList args.toList ds p := hA0
  rw [Tryd.params3] at hA hval hsz
  obtain ⟨v0, vs0, d0, ds0, p0, q0, hargs, rfl, rfl, h0, r0⟩ := trodAll_cons hA
  obtain ⟨v1, vs1, d1, ds1, p1, q1, rfl, rfl, rfl, h1, r1⟩ := trodAll_cons r0
  obtain ⟨v2, vs2, d2, ds2, p2, q2, rfl, rfl, rfl, h2, r2⟩ := trodAll_cons r1
  obtain ⟨rfl, rfl, rfl⟩ := trodAll_nil r2
  obtain rfl : args = #[v0, v1, v2] := by cases args; simp_all
  obtain ⟨rfl, rfl⟩ := trodVars_none hV
  have k0 := h0
  have lt0 : ∀ x ∈ p0, x.block < W.heap.size := by obtain ⟨m, hm⟩ := k0; exact DataW.trod_lt m _ _ _ hm
  obtain ⟨x0, K0, S0⟩ := op22.arg h0 hsz (j := 0) rfl rfl
  obtain ⟨b0, len0, cap0, rfl⟩ := okWide_slice Tryd.underlying22 (hval 0 22 v0 rfl rfl)
  obtain ⟨A0, c0, e0, hc0, hr0⟩ := K0
  obtain ⟨rfl, rfl, rfl⟩ : A0 = b0 ∧ len0 = x0.length ∧ c0 = cap0 := by
    simp [Value.cells] at e0
    exact ⟨e0.1.symm, e0.2.1, e0.2.2.symm⟩
  obtain ⟨a1, rfl, rfl, rfl, y1⟩ := open_string Tryd.underlying9 (hval 1 9 v1 rfl rfl) h1
  have w1 : a1.size ≤ 140737488351232 := by
    have z := sized_string hsz (j := 1) (t := 9) rfl rfl
    rw [Array.length_toList] at z
    exact z
  obtain ⟨a2, rfl, rfl, rfl, y2⟩ := open_string Tryd.underlying9 (hval 2 9 v2 rfl rfl) h2
  have w2 : a2.size ≤ 140737488351232 := by
    have z := sized_string hsz (j := 2) (t := 9) rfl rfl
    rw [Array.length_toList] at z
    exact z
  clear hA0 hval0 hsz0 hsz
  obtain ⟨k, hf⟩ := Pure.PairsTells x0 a1 a2 S0 w1 w2
  refine (P.tolllaw05_PairsTells.calls k A0 c0 x0 a1 a2 true W hr0 hc0 hf).mono fun e W' hew => ?_
  obtain ⟨he, bel0⟩ := hew
  have bel : Below W.heap.size W W' := bel0
  subst he
  exact ⟨_, rfl, _, _, _, [], _, [], hW', trodAll_mk1 (shut_bool Tryd.underlying4 _), (trodAll_cons_mk (Below.trod laidOut (by kernel_rfl) (of_decide_eq_true (by kernel_rfl)) k0 bel lt0) (trodAll_cons_mk (shut_string Tryd.underlying9 y1) (trodAll_cons_mk (shut_string Tryd.underlying9 y2) trodAll_mk0))), rfl, bel.frame _, fun h => by cases h⟩
theorem over : Rows.pairsTellsRow.holds Tryd.pinned (OpenSpec.ofChange Rows.pairsTellsSpec) :=
  OpenClaim.holds_of_wide 3 Tryd.f3 rfl rfl rfl rfl rfl rfl rfl ⟨rfl, rfl, rfl, rfl, rfl⟩ rfl rfl rfl rfl rfl (by kernel_rfl) Tryd.func3 (by kernel_rfl)
    (of_decide_eq_true (by kernel_rfl)) (by unfold Func.isWrapper; first | (rw [if_pos (by decide +kernel)]; kernel_rfl) | (rw [if_neg (by decide +kernel)]; exact ⟨rfl, rfl⟩))
    (fun os started H enc _ => lifted os started H enc)
theorem proved : Rows.PairsTellsSaid := over
#print axioms proved
/-- The tied card. -/
theorem card : Rows.PairsTellsCardSaid :=
  Claim7.holds_tied_plain_at .later [] [.data, .pinned] true (true, "48b6d11ef8889ac4272f399380217159b3169c6e34deae8f424a057862645ef0") false over (fun _ h => by cases h) (by kernel_rfl) (fun _ h => by cases h) pairsTells_row_tie rfl ⟨rfl, rfl⟩ (by kernel_rfl) rfl
    (fun f fn hf hfn => by
      obtain rfl : f = 3 := Option.some.inj ((show Tryd.prog.funcNamed "toll/tolllaw05.PairsTells" = some 3 by kernel_rfl).symm.trans hf) |>.symm
      obtain rfl : fn = Tryd.f3 := (Option.some.inj (Tryd.func3.symm.trans hfn)).symm
      exact ⟨by kernel_rfl, fun j t ht => by
        rw [Tryd.params3] at ht
        have hm : t ∈ [22, 9, 9] := by simpa using Array.mem_of_getElem? ht
        have hall : ([22, 9, 9].all fun u => !Tryd.prog.wantsStandIn u) = true := by kernel_rfl
        exact (show Tryd.prog.wantsStandIn t = false by simpa using List.all_eq_true.1 hall t hm)⟩)
    (by kernel_rfl)
#print axioms card
end Go.Proofs.YtnldeohdojemlaaDoor.pairsTells
namespace Go.Proofs.YtnldeohdojemlaaDoor
/-- The statement, under a short name, for the claim. -/
theorem pairsTells_holds : Rows.PairsTellsCardSaid := pairsTells.card
end Go.Proofs.YtnldeohdojemlaaDoor
