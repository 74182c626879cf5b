/-
  toll/tolllaw18.HeadMethods: for every input the law answers true, and what was handed in reads as it did. No condition beyond the statement's own.
-/
import Derived.Test.YtpmllmfamjpinaaDoorRows
import Derived.Test.YtpmllmfamjpinaaDoorTie
import Derived.Test.YtpmllmfamjpinaaDoorCards
import Derived.Shelf.Vars
import Derived.Test.YtpmllmfamjpinaaDoorPx0
import Derived.Test.YtpmllmfamjpinaaDoorPx17
import Derived.Test.YtpmllmfamjpinaaDoorPureHeadMethods
import Derived.Test.YtpmllmfamjpinaaDoorOpen
import Derived.Test.YtpmllmfamjpinaaDoorWSized
import Derived.WalkKit
import Derived.ProofKit
import Derived.OpenShut
import Derived.ShutString
import Derived.ChangeOld
import Derived.Below
import Derived.SizedLaws
import Derived.WideShapes
import Derived.LaidMore
import Derived.Lay
import Derived.SevenTiedAt
import Derived.Stop.Joined
namespace Go.Proofs.YtpmllmfamjpinaaDoor.headMethods
open Go.ChangeShapes Go.WideShapes Go.ChangeAt Go.RowKit Go.Proofs.YtpmllmfamjpinaaDoorW.PrintWords Go.Proofs.YtpmllmfamjpinaaDoorW.PrintLast
open Go.ChangeMaps (open_string shut_string)
theorem own : ownKnob Tryd.prog.godebug = none := by kernel_rfl
theorem laidOut : laidOutB Tryd.prog = true := by kernel_rfl
theorem op35 : Open.Opens Tryd.prog 35 P.k35 (fun x => (x.f0.size ≤ 140737488351232) ∧ (x.f1.size ≤ 140737488351232)) :=
  Open.opens_struct Tryd.underlying35 (by kernel_rfl) (Open.opensF_cons rfl (Open.opens_string Tryd.underlying9 (by kernel_rfl)) (Open.opensF_one rfl (Open.opens_string Tryd.underlying9 (by kernel_rfl)))) (fun (x : P.S35) => (x.f0, x.f1)) (fun y => (⟨y.1, y.2⟩ : P.S35)) (fun _ => rfl)
theorem op24 : Open.Opens Tryd.prog 24 (Kd.slice 35 P.k35) (fun l => l.length ≤ maxLen ∧ l.length * 32 ≤ 140737488351232 ∧ ∀ y ∈ l, (y.f0.size ≤ 140737488351232) ∧ (y.f1.size ≤ 140737488351232)) :=
  Open.opens_slice Tryd.underlying24 (by kernel_rfl) op35 (by kernel_rfl) 35
theorem op26 : Open.Opens Tryd.prog 26 P.k26 (fun x => (x.f0.size ≤ 140737488351232) ∧ (x.f1.size ≤ 140737488351232) ∧ (x.f2.size ≤ 140737488351232) ∧ (x.f3.length ≤ maxLen ∧ x.f3.length * 32 ≤ 140737488351232 ∧ ∀ y ∈ x.f3, (y.f0.size ≤ 140737488351232) ∧ (y.f1.size ≤ 140737488351232)) ∧ (x.f4.length ≤ maxLen ∧ x.f4.length * 32 ≤ 140737488351232 ∧ ∀ y ∈ x.f4, (y.f0.size ≤ 140737488351232) ∧ (y.f1.size ≤ 140737488351232))) :=
  Open.opens_struct Tryd.underlying26 (by kernel_rfl) (Open.opensF_cons rfl (Open.opens_string Tryd.underlying9 (by kernel_rfl)) (Open.opensF_cons rfl (Open.opens_string Tryd.underlying9 (by kernel_rfl)) (Open.opensF_cons rfl (Open.opens_string Tryd.underlying9 (by kernel_rfl)) (Open.opensF_cons rfl op24 (Open.opensF_one rfl op24))))) (fun (x : P.S26) => (x.f0, x.f1, x.f2, x.f3, x.f4)) (fun y => (⟨y.1, y.2.1, y.2.2.1, y.2.2.2.1, y.2.2.2.2⟩ : P.S26)) (fun _ => rfl)
set_option maxRecDepth 100000 in
theorem lifted (os : Os) (started : os.Started) (H : Type) (enc : TypeId × Value → H) :
    ReturnsInHanded {} Tryd.checked os 7 .any (fun w args => (Rows.headMethodsSpec.pre enc Tryd.prog Tryd.f7 Rows.headMethodsRow.domain false w args ∧ laidMetH Tryd.prog Rows.headMethodsRow.laid w) ∧ sizedMet enc Tryd.prog Tryd.f7 (OpenSpec.ofChange Rows.headMethodsSpec) false w args) (Rows.headMethodsSpec.post enc Tryd.prog Tryd.f7 false true false false) := by
  refine Open.returns_shaped (C := Tryd.checked) (X := fun w _ => laidMetH Tryd.prog Rows.headMethodsRow.laid w) (fun _ _ _ hh h => h.of_heap hh) own started (by kernel_rfl) Tryd.func7
    (ChangeSpec.witness_shaped (enc := enc) (C := Tryd.checked) (os := os) (X := fun w _ => laidMetH Tryd.prog Rows.headMethodsRow.laid w) false (World.laidAll Tryd.prog os Rows.headMethodsRow.laid) #[.agg #[.string ByteArray.empty, .string ByteArray.empty, .string ByteArray.empty, .slice none 0 0, .slice none 0 0], .string ByteArray.empty, .string ByteArray.empty] 8 (World.laidAll_os _ _ _)
      (World.shaped_of_ZipB (by kernel_rfl) (by kernel_rfl)) (by kernel_rfl) (by kernel_rfl) (by kernel_rfl)
      (by rw [MakeChecks.laidMetH_plain _ _ _ (by kernel_rfl)]; exact laidMet_laidAll _ (by kernel_rfl) (by kernel_rfl))) ?_
  intro W base args ds gs before hval0 hW hcnd hsz0 _ hsh
  have hG : P.MaxL W := cell_of_shapedOpen_int (P := Tryd.prog) (g := 0) (t := 3) (zero := #[.int .i64 0]) hsh (of_decide_eq_true (by kernel_rfl)) (by kernel_rfl) rfl (by kernel_rfl) (by kernel_rfl) Tryd.underlying3
  have hsz : (DataW.weightsEach Tryd.prog (Tryd.f7.params.toList ++ Rows.headMethodsSpec.plain.varTypes Tryd.prog) (ds ++ gs)).all (· ≤ reachBytes) = true := hsz0
  have hval : ∀ (j : Nat) t v, Tryd.f7.params[j]? = some t → args[j]? = some v → Value.okWide Tryd.prog W .any base t v := hval0
  have hW' := hW
  obtain ⟨p, q, hA0, hV, rfl, hfz, hnd⟩ := hW
  have hA : DataW.TrodAll enc Tryd.prog W 0 (fun _ => true) true Tryd.f7.params.toList args.toList ds p := hA0
  rw [Tryd.params7] at hA hval hsz
  obtain ⟨v0, vs0, d0, ds0, p0, q0, hargs, rfl, rfl, h0, r0⟩ := trodAll_cons hA
  obtain ⟨v1, vs1, d1, ds1, p1, q1, rfl, rfl, rfl, h1, r1⟩ := trodAll_cons r0
  obtain ⟨v2, vs2, d2, ds2, p2, q2, rfl, rfl, rfl, h2, r2⟩ := trodAll_cons r1
  obtain ⟨rfl, rfl, rfl⟩ := trodAll_nil r2
  obtain rfl : args = #[v0, v1, v2] := by cases args; simp_all
  obtain ⟨rfl, rfl⟩ := trodVars_none hV
  have k0 := h0
  have lt0 : ∀ x ∈ p0, x.block < W.heap.size := by obtain ⟨m, hm⟩ := k0; exact DataW.trod_lt m _ _ _ hm
  obtain ⟨x0, K0, S0⟩ := op26.arg h0 hsz (j := 0) rfl rfl
  obtain ⟨cs0, rfl, _⟩ := okWide_struct Tryd.underlying26 (hval 0 26 v0 rfl rfl)
  obtain ⟨A0_3, c0_3, A0_4, c0_4, e0, l0_3, g0_3, l0_4, g0_4⟩ := P.k26_open K0
  obtain rfl : cs0 = #[.string x0.f0, .string x0.f1, .string x0.f2, .slice A0_3 x0.f3.length c0_3, .slice A0_4 x0.f4.length c0_4] := by
    cases cs0
    simpa [Value.cells] using e0
  obtain ⟨a1, rfl, rfl, rfl, y1⟩ := open_string Tryd.underlying9 (hval 1 9 v1 rfl rfl) h1
  have w1 : a1.size ≤ 140737488351232 := by
    have z := sized_string hsz (j := 1) (t := 9) rfl rfl
    rw [Array.length_toList] at z
    exact z
  obtain ⟨a2, rfl, rfl, rfl, y2⟩ := open_string Tryd.underlying9 (hval 2 9 v2 rfl rfl) h2
  have w2 : a2.size ≤ 140737488351232 := by
    have z := sized_string hsz (j := 2) (t := 9) rfl rfl
    rw [Array.length_toList] at z
    exact z
  clear hA0 hval0 hsz0 hsz
  obtain ⟨k, hf⟩ := Pure.HeadMethods x0.f0 x0.f1 x0.f2 x0.f3 x0.f4 a1 a2 S0 w1 w2
  refine (P.tolllaw18_HeadMethods.calls k x0.f0 x0.f1 x0.f2 A0_3 c0_3 x0.f3 A0_4 c0_4 x0.f4 a1 a2 true W g0_3 l0_3 g0_4 l0_4 hG hf).mono fun e W' hew => ?_
  obtain ⟨he, bel0⟩ := hew
  have bel : Below W.heap.size W W' := bel0
  subst he
  exact ⟨_, rfl, _, _, _, [], _, [], hW', trodAll_mk1 (shut_bool Tryd.underlying4 _), (trodAll_cons_mk (Below.trod laidOut (by kernel_rfl) (of_decide_eq_true (by kernel_rfl)) k0 bel lt0) (trodAll_cons_mk (shut_string Tryd.underlying9 y1) (trodAll_cons_mk (shut_string Tryd.underlying9 y2) trodAll_mk0))), rfl, bel.frame _, fun h => by cases h⟩
theorem over : Rows.headMethodsRow.holds Tryd.pinned (OpenSpec.ofChange Rows.headMethodsSpec) :=
  OpenClaim.holds_of_wide 7 Tryd.f7 rfl rfl rfl rfl rfl rfl rfl ⟨rfl, rfl, rfl, rfl, rfl⟩ rfl rfl rfl rfl rfl (by kernel_rfl) Tryd.func7 (by kernel_rfl)
    (of_decide_eq_true (by kernel_rfl)) (by unfold Func.isWrapper; first | (rw [if_pos (by decide +kernel)]; kernel_rfl) | (rw [if_neg (by decide +kernel)]; exact ⟨rfl, rfl⟩))
    (fun os started H enc _ => lifted os started H enc)
theorem proved : Rows.HeadMethodsSaid := over
#print axioms proved
/-- The tied card. -/
theorem card : Rows.HeadMethodsCardSaid :=
  Claim7.holds_tied_plain_at .later [] [.data, .pinned] true (true, "dc40a5ac5849acf4f96dfe2cecf95e4e4dd8fdbf1b9e08b90df64219e6dabdb8") false over (fun _ h => by cases h) (by kernel_rfl) (fun _ h => by cases h) headMethods_row_tie rfl ⟨rfl, rfl⟩ (by kernel_rfl) rfl
    (fun f fn hf hfn => by
      obtain rfl : f = 7 := Option.some.inj ((show Tryd.prog.funcNamed "toll/tolllaw18.HeadMethods" = some 7 by kernel_rfl).symm.trans hf) |>.symm
      obtain rfl : fn = Tryd.f7 := (Option.some.inj (Tryd.func7.symm.trans hfn)).symm
      exact ⟨by kernel_rfl, fun j t ht => by
        rw [Tryd.params7] at ht
        have hm : t ∈ [26, 9, 9] := by simpa using Array.mem_of_getElem? ht
        have hall : ([26, 9, 9].all fun u => !Tryd.prog.wantsStandIn u) = true := by kernel_rfl
        exact (show Tryd.prog.wantsStandIn t = false by simpa using List.all_eq_true.1 hall t hm)⟩)
    (by kernel_rfl)
#print axioms card
end Go.Proofs.YtpmllmfamjpinaaDoor.headMethods
namespace Go.Proofs.YtpmllmfamjpinaaDoor
/-- The statement, under a short name, for the claim. -/
theorem headMethods_holds : Rows.HeadMethodsCardSaid := headMethods.card
end Go.Proofs.YtpmllmfamjpinaaDoor
