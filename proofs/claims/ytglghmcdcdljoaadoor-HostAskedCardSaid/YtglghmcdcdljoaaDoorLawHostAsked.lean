/-
  toll/tolllaw02.HostAsked: for every input the law answers true, and what was handed in reads as it did. No condition beyond the statement's own.
-/
import Derived.Test.YtglghmcdcdljoaaDoorRows
import Derived.Test.YtglghmcdcdljoaaDoorTie
import Derived.Test.YtglghmcdcdljoaaDoorCards
import Derived.Test.YtglghmcdcdljoaaDoorPx0
import Derived.Test.YtglghmcdcdljoaaDoorPx4
import Derived.Test.YtglghmcdcdljoaaDoorPureHostAsked
import Derived.Test.YtglghmcdcdljoaaDoorOpen
import Derived.Test.YtglghmcdcdljoaaDoorWSized
import Derived.WalkKit
import Derived.ProofKit
import Derived.OpenShut
import Derived.ShutString
import Derived.ChangeOld
import Derived.Below
import Derived.SizedLaws
import Derived.WideShapes
import Derived.LaidMore
import Derived.Lay
import Derived.SevenTiedAt
import Derived.Stop.Joined
namespace Go.Proofs.YtglghmcdcdljoaaDoor.hostAsked
open Go.ChangeShapes Go.WideShapes Go.ChangeAt Go.RowKit Go.Proofs.YtglghmcdcdljoaaDoorW.PrintWords Go.Proofs.YtglghmcdcdljoaaDoorW.PrintLast
open Go.ChangeMaps (open_string shut_string)
theorem own : ownKnob Tryd.prog.godebug = none := by kernel_rfl
theorem laidOut : laidOutB Tryd.prog = true := by kernel_rfl
theorem op23 : Open.Opens Tryd.prog 23 (Kd.slice 4 Kd.bool) (fun l => l.length ≤ maxLen ∧ l.length * 1 ≤ 140737488351232 ∧ ∀ y ∈ l, True) :=
  Open.opens_slice Tryd.underlying23 (by kernel_rfl) (Open.opens_bool Tryd.underlying4 (by kernel_rfl)) (by kernel_rfl) 4
set_option maxRecDepth 100000 in
theorem lifted (os : Os) (started : os.Started) (H : Type) (enc : TypeId × Value → H) :
    ReturnsInHanded {} Tryd.checked os 3 .any (fun w args => (Rows.hostAskedSpec.pre enc Tryd.prog Tryd.f3 Rows.hostAskedRow.domain false w args ∧ laidMetH Tryd.prog Rows.hostAskedRow.laid w) ∧ sizedMet enc Tryd.prog Tryd.f3 (OpenSpec.ofChange Rows.hostAskedSpec) false w args) (Rows.hostAskedSpec.post enc Tryd.prog Tryd.f3 false true false false) := by
  refine returnsInHanded_of_change_and (C := Tryd.checked) (X := fun w _ => laidMetH Tryd.prog Rows.hostAskedRow.laid w) (fun _ _ _ hh h => h.of_heap hh) own started (by kernel_rfl) Tryd.func3
    (ChangeSpec.witness_shaped (enc := enc) (C := Tryd.checked) (os := os) (X := fun w _ => laidMetH Tryd.prog Rows.hostAskedRow.laid w) false (World.laidAll Tryd.prog os Rows.hostAskedRow.laid) #[.string ByteArray.empty, .int .u16 0, .slice none 0 0] 8 (World.laidAll_os _ _ _)
      (World.shaped_of_ZipB (by kernel_rfl) (by kernel_rfl)) (by kernel_rfl) (by kernel_rfl) (by kernel_rfl)
      (by rw [MakeChecks.laidMetH_plain _ _ _ (by kernel_rfl)]; exact laidMet_laidAll _ (by kernel_rfl) (by kernel_rfl))) ?_
  intro W base args ds gs before hval0 hW hcnd hsz0 _ _
  have hsz : (DataW.weightsEach Tryd.prog (Tryd.f3.params.toList ++ Rows.hostAskedSpec.plain.varTypes Tryd.prog) (ds ++ gs)).all (· ≤ reachBytes) = true := hsz0
  have hval : ∀ (j : Nat) t v, Tryd.f3.params[j]? = some t → args[j]? = some v → Value.okWide Tryd.prog W .any base t v := hval0
  have hW' := hW
  obtain ⟨p, q, hA0, hV, rfl, hfz, hnd⟩ := hW
  have hA : DataW.TrodAll enc Tryd.prog W 0 (fun _ => true) true Tryd.f3.params.toList args.toList ds p := hA0
  rw [Tryd.params3] at hA hval hsz
  obtain ⟨v0, vs0, d0, ds0, p0, q0, hargs, rfl, rfl, h0, r0⟩ := trodAll_cons hA
  obtain ⟨v1, vs1, d1, ds1, p1, q1, rfl, rfl, rfl, h1, r1⟩ := trodAll_cons r0
  obtain ⟨v2, vs2, d2, ds2, p2, q2, rfl, rfl, rfl, h2, r2⟩ := trodAll_cons r1
  obtain ⟨rfl, rfl, rfl⟩ := trodAll_nil r2
  obtain rfl : args = #[v0, v1, v2] := by cases args; simp_all
  obtain ⟨rfl, rfl⟩ := trodVars_none hV
  obtain ⟨a0, rfl, rfl, rfl, y0⟩ := open_string Tryd.underlying9 (hval 0 9 v0 rfl rfl) h0
  have w0 : a0.size ≤ 140737488351232 := by
    have z := sized_string hsz (j := 0) (t := 9) rfl rfl
    rw [Array.length_toList] at z
    exact z
  obtain ⟨a1, rfl, rfl, rfl, w1⟩ := open_int Tryd.underlying22 (hval 1 22 v1 rfl rfl) h1
  have k2 := h2
  have lt2 : ∀ x ∈ p2, x.block < W.heap.size := by obtain ⟨m, hm⟩ := k2; exact DataW.trod_lt m _ _ _ hm
  obtain ⟨x2, K2, S2⟩ := op23.arg h2 hsz (j := 2) rfl rfl
  obtain ⟨b2, len2, cap2, rfl⟩ := okWide_slice Tryd.underlying23 (hval 2 23 v2 rfl rfl)
  obtain ⟨A2, c2, e2, hc2, hr2⟩ := K2
  obtain ⟨rfl, rfl, rfl⟩ : A2 = b2 ∧ len2 = x2.length ∧ c2 = cap2 := by
    simp [Value.cells] at e2
    exact ⟨e2.1.symm, e2.2.1, e2.2.2.symm⟩
  clear hA0 hval0 hsz0 hsz
  obtain ⟨k, hf⟩ := Pure.HostAsked a0 a1 x2 w0 w1 S2
  refine (P.tolllaw02_HostAsked.calls k a0 a1 A2 c2 x2 true W hr2 hc2 hf).mono fun e W' hew => ?_
  obtain ⟨he, bel0⟩ := hew
  have bel : Below W.heap.size W W' := bel0
  subst he
  exact ⟨_, rfl, _, _, _, [], _, [], hW', trodAll_mk1 (shut_bool Tryd.underlying4 _), (trodAll_cons_mk (shut_string Tryd.underlying9 y0) (trodAll_cons_mk (shut_int Tryd.underlying22 w1) (trodAll_cons_mk (Below.trod laidOut (by kernel_rfl) (of_decide_eq_true (by kernel_rfl)) k2 bel lt2) trodAll_mk0))), rfl, bel.frame _, fun h => by cases h⟩
theorem over : Rows.hostAskedRow.holds Tryd.pinned (OpenSpec.ofChange Rows.hostAskedSpec) :=
  OpenClaim.holds_of_wide 3 Tryd.f3 rfl rfl rfl rfl rfl rfl rfl ⟨rfl, rfl, rfl, rfl, rfl⟩ rfl rfl rfl rfl rfl (by kernel_rfl) Tryd.func3 (by kernel_rfl)
    (of_decide_eq_true (by kernel_rfl)) (by unfold Func.isWrapper; first | (rw [if_pos (by decide +kernel)]; kernel_rfl) | (rw [if_neg (by decide +kernel)]; exact ⟨rfl, rfl⟩))
    (fun os started H enc _ => lifted os started H enc)
theorem proved : Rows.HostAskedSaid := over
#print axioms proved
/-- The tied card. -/
theorem card : Rows.HostAskedCardSaid :=
  Claim7.holds_tied_plain_at .later [] [.data, .pinned] true (true, "f737dc6350b234c17b99b5865f5743f565b315029ca4a4f40ac626e6086925d1") false over (fun _ h => by cases h) (by kernel_rfl) (fun _ h => by cases h) hostAsked_row_tie rfl ⟨rfl, rfl⟩ (by kernel_rfl) rfl
    (fun f fn hf hfn => by
      obtain rfl : f = 3 := Option.some.inj ((show Tryd.prog.funcNamed "toll/tolllaw02.HostAsked" = some 3 by kernel_rfl).symm.trans hf) |>.symm
      obtain rfl : fn = Tryd.f3 := (Option.some.inj (Tryd.func3.symm.trans hfn)).symm
      exact ⟨by kernel_rfl, fun j t ht => by
        rw [Tryd.params3] at ht
        have hm : t ∈ [9, 22, 23] := by simpa using Array.mem_of_getElem? ht
        have hall : ([9, 22, 23].all fun u => !Tryd.prog.wantsStandIn u) = true := by kernel_rfl
        exact (show Tryd.prog.wantsStandIn t = false by simpa using List.all_eq_true.1 hall t hm)⟩)
    (by kernel_rfl)
#print axioms card
end Go.Proofs.YtglghmcdcdljoaaDoor.hostAsked
namespace Go.Proofs.YtglghmcdcdljoaaDoor
/-- The statement, under a short name, for the claim. -/
theorem hostAsked_holds : Rows.HostAskedCardSaid := hostAsked.card
end Go.Proofs.YtglghmcdcdljoaaDoor
