/-
  toll/tolllaw18.HeadLays: for every input the law answers true, and what was handed in reads as it did. No condition beyond the statement's own.
-/
import Derived.Test.YtpmllmfamjpinaaGreatDoorRows
import Derived.Test.YtpmllmfamjpinaaGreatDoorTie
import Derived.Test.YtpmllmfamjpinaaGreatDoorCards
import Derived.Shelf.Vars
import Derived.Test.YtpmllmfamjpinaaGreatDoorPx0
import Derived.Test.YtpmllmfamjpinaaGreatDoorPx15
import Derived.Test.YtpmllmfamjpinaaGreatDoorPureHeadLays
import Derived.Test.YtpmllmfamjpinaaGreatDoorOpen
import Derived.Test.YtpmllmfamjpinaaGreatDoorWSized
import Derived.WalkKit
import Derived.ProofKit
import Derived.OpenShut
import Derived.ShutString
import Derived.ChangeOld
import Derived.Below
import Derived.SizedLaws
import Derived.WideShapes
import Derived.LaidMore
import Derived.Lay
import Derived.SevenTiedAt
import Derived.Stop.Joined
namespace Go.Proofs.YtpmllmfamjpinaaGreatDoor.headLays
open Go.ChangeShapes Go.WideShapes Go.ChangeAt Go.RowKit Go.Proofs.YtpmllmfamjpinaaGreatDoorW.PrintWords Go.Proofs.YtpmllmfamjpinaaGreatDoorW.PrintLast
open Go.ChangeMaps (open_string shut_string)
theorem own : ownKnob Tryz.prog.godebug = none := by kernel_rfl
theorem laidOut : laidOutB Tryz.prog = true := by kernel_rfl
theorem op51 : Open.Opens Tryz.prog 51 P.k51 (fun x => (x.f0.size ≤ 140737488351232) ∧ (x.f1.size ≤ 140737488351232)) :=
  Open.opens_struct Tryz.underlying51 (by kernel_rfl) (Open.opensF_cons rfl (Open.opens_string Tryz.underlying9 (by kernel_rfl)) (Open.opensF_one rfl (Open.opens_string Tryz.underlying9 (by kernel_rfl)))) (fun (x : P.S51) => (x.f0, x.f1)) (fun y => (⟨y.1, y.2⟩ : P.S51)) (fun _ => rfl)
theorem op22 : Open.Opens Tryz.prog 22 (Kd.slice 51 P.k51) (fun l => l.length ≤ maxLen ∧ l.length * 32 ≤ 140737488351232 ∧ ∀ y ∈ l, (y.f0.size ≤ 140737488351232) ∧ (y.f1.size ≤ 140737488351232)) :=
  Open.opens_slice Tryz.underlying22 (by kernel_rfl) op51 (by kernel_rfl) 51
theorem op24 : Open.Opens Tryz.prog 24 P.k24 (fun x => (x.f0.size ≤ 140737488351232) ∧ (x.f1.size ≤ 140737488351232) ∧ (x.f2.size ≤ 140737488351232) ∧ (x.f3.length ≤ maxLen ∧ x.f3.length * 32 ≤ 140737488351232 ∧ ∀ y ∈ x.f3, (y.f0.size ≤ 140737488351232) ∧ (y.f1.size ≤ 140737488351232)) ∧ (x.f4.length ≤ maxLen ∧ x.f4.length * 32 ≤ 140737488351232 ∧ ∀ y ∈ x.f4, (y.f0.size ≤ 140737488351232) ∧ (y.f1.size ≤ 140737488351232))) :=
  Open.opens_struct Tryz.underlying24 (by kernel_rfl) (Open.opensF_cons rfl (Open.opens_string Tryz.underlying9 (by kernel_rfl)) (Open.opensF_cons rfl (Open.opens_string Tryz.underlying9 (by kernel_rfl)) (Open.opensF_cons rfl (Open.opens_string Tryz.underlying9 (by kernel_rfl)) (Open.opensF_cons rfl op22 (Open.opensF_one rfl op22))))) (fun (x : P.S24) => (x.f0, x.f1, x.f2, x.f3, x.f4)) (fun y => (⟨y.1, y.2.1, y.2.2.1, y.2.2.2.1, y.2.2.2.2⟩ : P.S24)) (fun _ => rfl)
set_option maxRecDepth 100000 in
theorem lifted (os : Os) (started : os.Started) (H : Type) (enc : TypeId × Value → H) :
    ReturnsInHanded {} Tryz.checked os 3 .any (fun w args => (Rows.headLaysSpec.pre enc Tryz.prog Tryz.f3 Rows.headLaysRow.domain false w args ∧ laidMetH Tryz.prog Rows.headLaysRow.laid w) ∧ sizedMet enc Tryz.prog Tryz.f3 (OpenSpec.ofChange Rows.headLaysSpec) false w args) (Rows.headLaysSpec.post enc Tryz.prog Tryz.f3 false true false false) := by
  refine Open.returns_shaped (C := Tryz.checked) (X := fun w _ => laidMetH Tryz.prog Rows.headLaysRow.laid w) (fun _ _ _ hh h => h.of_heap hh) own started (by kernel_rfl) Tryz.func3
    (ChangeSpec.witness_shaped (enc := enc) (C := Tryz.checked) (os := os) (X := fun w _ => laidMetH Tryz.prog Rows.headLaysRow.laid w) false (World.laidAll Tryz.prog os Rows.headLaysRow.laid) #[.agg #[.string ByteArray.empty, .string ByteArray.empty, .string ByteArray.empty, .slice none 0 0, .slice none 0 0], .string ByteArray.empty] 8 (World.laidAll_os _ _ _)
      (World.shaped_of_ZipB (by kernel_rfl) (by kernel_rfl)) (by kernel_rfl) (by kernel_rfl) (by kernel_rfl)
      (by rw [MakeChecks.laidMetH_plain _ _ _ (by kernel_rfl)]; exact laidMet_laidAll _ (by kernel_rfl) (by kernel_rfl))) ?_
  intro W base args ds gs before hval0 hW hcnd hsz0 _ hsh
  have hG : P.MaxL W := cell_of_shapedOpen_int (P := Tryz.prog) (g := 0) (t := 3) (zero := #[.int .i64 0]) hsh (of_decide_eq_true (by kernel_rfl)) (by kernel_rfl) rfl (by kernel_rfl) (by kernel_rfl) Tryz.underlying3
  have hsz : (DataW.weightsEach Tryz.prog (Tryz.f3.params.toList ++ Rows.headLaysSpec.plain.varTypes Tryz.prog) (ds ++ gs)).all (· ≤ reachBytes) = true := hsz0
  have hval : ∀ (j : Nat) t v, Tryz.f3.params[j]? = some t → args[j]? = some v → Value.okWide Tryz.prog W .any base t v := hval0
  have hW' := hW
  obtain ⟨p, q, hA0, hV, rfl, hfz, hnd⟩ := hW
  have hA : DataW.TrodAll enc Tryz.prog W 0 (fun _ => true) true Tryz.f3.params.toList args.toList ds p := hA0
  rw [Tryz.params3] at hA hval hsz
  obtain ⟨v0, vs0, d0, ds0, p0, q0, hargs, rfl, rfl, h0, r0⟩ := trodAll_cons hA
  obtain ⟨v1, vs1, d1, ds1, p1, q1, rfl, rfl, rfl, h1, r1⟩ := trodAll_cons r0
  obtain ⟨rfl, rfl, rfl⟩ := trodAll_nil r1
  obtain rfl : args = #[v0, v1] := by cases args; simp_all
  obtain ⟨rfl, rfl⟩ := trodVars_none hV
  have k0 := h0
  have lt0 : ∀ x ∈ p0, x.block < W.heap.size := by obtain ⟨m, hm⟩ := k0; exact DataW.trod_lt m _ _ _ hm
  obtain ⟨x0, K0, S0⟩ := op24.arg h0 hsz (j := 0) rfl rfl
  obtain ⟨cs0, rfl, _⟩ := okWide_struct Tryz.underlying24 (hval 0 24 v0 rfl rfl)
  obtain ⟨A0_3, c0_3, A0_4, c0_4, e0, l0_3, g0_3, l0_4, g0_4⟩ := P.k24_open K0
  obtain rfl : cs0 = #[.string x0.f0, .string x0.f1, .string x0.f2, .slice A0_3 x0.f3.length c0_3, .slice A0_4 x0.f4.length c0_4] := by
    cases cs0
    simpa [Value.cells] using e0
  obtain ⟨a1, rfl, rfl, rfl, y1⟩ := open_string Tryz.underlying9 (hval 1 9 v1 rfl rfl) h1
  have w1 : a1.size ≤ 140737488351232 := by
    have z := sized_string hsz (j := 1) (t := 9) rfl rfl
    rw [Array.length_toList] at z
    exact z
  clear hA0 hval0 hsz0 hsz
  obtain ⟨k, hf⟩ := Pure.HeadLays x0.f0 x0.f1 x0.f2 x0.f3 x0.f4 a1 S0 w1
  refine (P.tolllaw18_HeadLays.calls k x0.f0 x0.f1 x0.f2 A0_3 c0_3 x0.f3 A0_4 c0_4 x0.f4 a1 true W g0_3 l0_3 g0_4 l0_4 hG hf).mono fun e W' hew => ?_
  obtain ⟨he, bel0⟩ := hew
  have bel : Below W.heap.size W W' := bel0
  subst he
  exact ⟨_, rfl, _, _, _, [], _, [], hW', trodAll_mk1 (shut_bool Tryz.underlying4 _), (trodAll_cons_mk (Below.trod laidOut (by kernel_rfl) (of_decide_eq_true (by kernel_rfl)) k0 bel lt0) (trodAll_cons_mk (shut_string Tryz.underlying9 y1) trodAll_mk0)), rfl, bel.frame _, fun h => by cases h⟩
theorem over : Rows.headLaysRow.holds Tryz.pinned (OpenSpec.ofChange Rows.headLaysSpec) :=
  OpenClaim.holds_of_wide 3 Tryz.f3 rfl rfl rfl rfl rfl rfl rfl ⟨rfl, rfl, rfl, rfl, rfl⟩ rfl rfl rfl rfl rfl (by kernel_rfl) Tryz.func3 (by kernel_rfl)
    (of_decide_eq_true (by kernel_rfl)) (by unfold Func.isWrapper; first | (rw [if_pos (by decide +kernel)]; kernel_rfl) | (rw [if_neg (by decide +kernel)]; exact ⟨rfl, rfl⟩))
    (fun os started H enc _ => lifted os started H enc)
theorem proved : Rows.HeadLaysSaid := over
#print axioms proved
/-- The tied card. -/
theorem card : Rows.HeadLaysCardSaid :=
  Claim7.holds_tied_plain_at .later [] [.data, .pinned] true (true, "79c5dfccca2af220d22aa9bde8af31617b4cbf40a6e6e3549edcdcf3145d332b") false over (fun _ h => by cases h) (by kernel_rfl) (fun _ h => by cases h) headLays_row_tie rfl ⟨rfl, rfl⟩ (by kernel_rfl) rfl
    (fun f fn hf hfn => by
      obtain rfl : f = 3 := Option.some.inj ((show Tryz.prog.funcNamed "toll/tolllaw18.HeadLays" = some 3 by kernel_rfl).symm.trans hf) |>.symm
      obtain rfl : fn = Tryz.f3 := (Option.some.inj (Tryz.func3.symm.trans hfn)).symm
      exact ⟨by kernel_rfl, fun j t ht => by
        rw [Tryz.params3] at ht
        have hm : t ∈ [24, 9] := by simpa using Array.mem_of_getElem? ht
        have hall : ([24, 9].all fun u => !Tryz.prog.wantsStandIn u) = true := by kernel_rfl
        exact (show Tryz.prog.wantsStandIn t = false by simpa using List.all_eq_true.1 hall t hm)⟩)
    (by kernel_rfl)
#print axioms card
end Go.Proofs.YtpmllmfamjpinaaGreatDoor.headLays
namespace Go.Proofs.YtpmllmfamjpinaaGreatDoor
/-- The statement, under a short name, for the claim. -/
theorem headLays_holds : Rows.HeadLaysCardSaid := headLays.card
end Go.Proofs.YtpmllmfamjpinaaGreatDoor
