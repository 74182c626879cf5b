/-
  toll/tolllaw07.FilterOnce: for every input the law answers true, and what was handed in reads as it did. No condition beyond the statement's own.
-/
import Derived.Test.YtfdopmjgiakcdaaDoorRows
import Derived.Test.YtfdopmjgiakcdaaDoorTie
import Derived.Test.YtfdopmjgiakcdaaDoorCards
import Derived.Shelf.Vars
import Derived.Lib.LaidTab
import Derived.LaidSub
import Derived.Test.YtfdopmjgiakcdaaDoorPx0
import Derived.Test.YtfdopmjgiakcdaaDoorPx11
import Derived.Test.YtfdopmjgiakcdaaDoorPureFilterOnce
import Derived.Test.YtfdopmjgiakcdaaDoorOpen
import Derived.Test.YtfdopmjgiakcdaaDoorWSized
import Derived.WalkKit
import Derived.ProofKit
import Derived.OpenShut
import Derived.ShutString
import Derived.ChangeOld
import Derived.Below
import Derived.SizedLaws
import Derived.WideShapes
import Derived.LaidMore
import Derived.Lay
import Derived.SevenTiedAt
import Derived.Stop.Joined
namespace Go.Proofs.YtfdopmjgiakcdaaDoor.filterOnce
open Go.ChangeShapes Go.WideShapes Go.ChangeAt Go.RowKit Go.Proofs.YtfdopmjgiakcdaaDoorW.PrintWords Go.Proofs.YtfdopmjgiakcdaaDoorW.PrintLast
open Go.ChangeMaps (open_string shut_string)
theorem own : ownKnob Tryd.prog.godebug = none := by kernel_rfl
theorem laidOut : laidOutB Tryd.prog = true := by kernel_rfl
theorem op27 : Open.Opens Tryd.prog 27 P.k27 (fun x => ((Lit.int .i64 x.f0).wf = true) ∧ (x.f1.size ≤ 140737488351232) ∧ (x.f2.size ≤ 140737488351232) ∧ (x.f3.size ≤ 140737488351232) ∧ ((Lit.int .i64 x.f4).wf = true) ∧ (x.f5.size ≤ 140737488351232) ∧ (True) ∧ ((Lit.int .i64 x.f7).wf = true)) :=
  Open.opens_struct Tryd.underlying27 (by kernel_rfl) (Open.opensF_cons rfl (Open.opens_int Tryd.underlying3 (by kernel_rfl)) (Open.opensF_cons rfl (Open.opens_string Tryd.underlying9 (by kernel_rfl)) (Open.opensF_cons rfl (Open.opens_string Tryd.underlying9 (by kernel_rfl)) (Open.opensF_cons rfl (Open.opens_string Tryd.underlying9 (by kernel_rfl)) (Open.opensF_cons rfl (Open.opens_int Tryd.underlying3 (by kernel_rfl)) (Open.opensF_cons rfl (Open.opens_string Tryd.underlying9 (by kernel_rfl)) (Open.opensF_cons rfl (Open.opens_bool Tryd.underlying4 (by kernel_rfl)) (Open.opensF_one rfl (Open.opens_int Tryd.underlying3 (by kernel_rfl)))))))))) (fun (x : P.S27) => (x.f0, x.f1, x.f2, x.f3, x.f4, x.f5, x.f6, x.f7)) (fun y => (⟨y.1, y.2.1, y.2.2.1, y.2.2.2.1, y.2.2.2.2.1, y.2.2.2.2.2.1, y.2.2.2.2.2.2.1, y.2.2.2.2.2.2.2⟩ : P.S27)) (fun _ => rfl)
theorem op22 : Open.Opens Tryd.prog 22 (Kd.slice 27 P.k27) (fun l => l.length ≤ maxLen ∧ l.length * 96 ≤ 140737488351232 ∧ ∀ y ∈ l, ((Lit.int .i64 y.f0).wf = true) ∧ (y.f1.size ≤ 140737488351232) ∧ (y.f2.size ≤ 140737488351232) ∧ (y.f3.size ≤ 140737488351232) ∧ ((Lit.int .i64 y.f4).wf = true) ∧ (y.f5.size ≤ 140737488351232) ∧ (True) ∧ ((Lit.int .i64 y.f7).wf = true)) :=
  Open.opens_slice Tryd.underlying22 (by kernel_rfl) op27 (by kernel_rfl) 27
set_option maxRecDepth 100000 in
theorem lifted (os : Os) (started : os.Started) (H : Type) (enc : TypeId × Value → H) :
    ReturnsInHanded {} Tryd.checked os 3 .any (fun w args => (Rows.filterOnceSpec.pre enc Tryd.prog Tryd.f3 Rows.filterOnceRow.domain false w args ∧ laidMetH Tryd.prog Rows.filterOnceRow.laid w) ∧ sizedMet enc Tryd.prog Tryd.f3 (OpenSpec.ofChange Rows.filterOnceSpec) false w args) (Rows.filterOnceSpec.post enc Tryd.prog Tryd.f3 false true false false) := by
  refine Open.returns_shaped (C := Tryd.checked) (X := fun w _ => laidMetH Tryd.prog Rows.filterOnceRow.laid w) (fun _ _ _ hh h => h.of_heap hh) own started (by kernel_rfl) Tryd.func3
    (ChangeSpec.witness_shaped (enc := enc) (C := Tryd.checked) (os := os) (X := fun w _ => laidMetH Tryd.prog Rows.filterOnceRow.laid w) false (World.laidAll Tryd.prog os Rows.filterOnceRow.laid) #[.slice none 0 0, .int .u8 0] 8 (World.laidAll_os _ _ _)
      (World.shaped_of_ZipB (by kernel_rfl) (by kernel_rfl)) (by kernel_rfl) (by kernel_rfl) (by kernel_rfl)
      (by rw [MakeChecks.laidMetH_plain _ _ _ (by kernel_rfl)]; exact laidMet_laidAll _ (by kernel_rfl) (by kernel_rfl))) ?_
  intro W base args ds gs before hval0 hW hcnd hsz0 hX hsh
  have hG : P.MaxL W := by
    have hl_ := laidMetH.filter (fun x => x.1 == "internal/strconv.uint64pow10") hX
    rw [show (Rows.filterOnceRow.laid.filter fun x => x.1 == "internal/strconv.uint64pow10") = [("internal/strconv.uint64pow10", Lib.tabData .u64 Lib.pow10Tab)] from by kernel_rfl, MakeChecks.laidMetH_plain _ _ _ (by kernel_rfl)] at hl_
    exact Lib.tabIs_of_head (g := (Tryd.prog.globalNamed "internal/strconv.uint64pow10").get!) (t := 107) (e := 95) (n := 20) (by kernel_rfl) (by kernel_rfl) Tryd.underlying107 Tryd.underlying95 (by kernel_rfl) (by kernel_rfl) hl_
  have hsz : (DataW.weightsEach Tryd.prog (Tryd.f3.params.toList ++ Rows.filterOnceSpec.plain.varTypes Tryd.prog) (ds ++ gs)).all (· ≤ reachBytes) = true := hsz0
  have hval : ∀ (j : Nat) t v, Tryd.f3.params[j]? = some t → args[j]? = some v → Value.okWide Tryd.prog W .any base t v := hval0
  have hW' := hW
  obtain ⟨p, q, hA0, hV, rfl, hfz, hnd⟩ := hW
  have hA : DataW.TrodAll enc Tryd.prog W 0 (fun _ => true) true Tryd.f3.params.toList args.toList ds p := hA0
  rw [Tryd.params3] at hA hval hsz
  obtain ⟨v0, vs0, d0, ds0, p0, q0, hargs, rfl, rfl, h0, r0⟩ := trodAll_cons hA
  obtain ⟨v1, vs1, d1, ds1, p1, q1, rfl, rfl, rfl, h1, r1⟩ := trodAll_cons r0
  obtain ⟨rfl, rfl, rfl⟩ := trodAll_nil r1
  obtain rfl : args = #[v0, v1] := by cases args; simp_all
  obtain ⟨rfl, rfl⟩ := trodVars_none hV
  have k0 := h0
  have lt0 : ∀ x ∈ p0, x.block < W.heap.size := by obtain ⟨m, hm⟩ := k0; exact DataW.trod_lt m _ _ _ hm
  obtain ⟨x0, K0, S0⟩ := op22.arg h0 hsz (j := 0) rfl rfl
  obtain ⟨b0, len0, cap0, rfl⟩ := okWide_slice Tryd.underlying22 (hval 0 22 v0 rfl rfl)
  obtain ⟨A0, c0, e0, hc0, hr0⟩ := K0
  obtain ⟨rfl, rfl, rfl⟩ : A0 = b0 ∧ len0 = x0.length ∧ c0 = cap0 := by
    simp [Value.cells] at e0
    exact ⟨e0.1.symm, e0.2.1, e0.2.2.symm⟩
  obtain ⟨a1, rfl, rfl, rfl, w1⟩ := open_int Tryd.underlying5 (hval 1 5 v1 rfl rfl) h1
  clear hA0 hval0 hsz0 hsz
  obtain ⟨k, hf⟩ := Pure.FilterOnce x0 a1 S0 w1
  refine (P.tolllaw07_FilterOnce.calls k A0 c0 x0 a1 true W hr0 hc0 hG hf).mono fun e W' hew => ?_
  obtain ⟨he, bel0⟩ := hew
  have bel : Below W.heap.size W W' := bel0
  subst he
  exact ⟨_, rfl, _, _, _, [], _, [], hW', trodAll_mk1 (shut_bool Tryd.underlying4 _), (trodAll_cons_mk (Below.trod laidOut (by kernel_rfl) (of_decide_eq_true (by kernel_rfl)) k0 bel lt0) (trodAll_cons_mk (shut_int Tryd.underlying5 w1) trodAll_mk0)), rfl, bel.frame _, fun h => by cases h⟩
theorem over : Rows.filterOnceRow.holds Tryd.pinned (OpenSpec.ofChange Rows.filterOnceSpec) :=
  OpenClaim.holds_of_wide 3 Tryd.f3 rfl rfl rfl rfl rfl rfl rfl ⟨rfl, rfl, rfl, rfl, rfl⟩ rfl rfl rfl rfl rfl (by kernel_rfl) Tryd.func3 (by kernel_rfl)
    (of_decide_eq_true (by kernel_rfl)) (by unfold Func.isWrapper; first | (rw [if_pos (by decide +kernel)]; kernel_rfl) | (rw [if_neg (by decide +kernel)]; exact ⟨rfl, rfl⟩))
    (fun os started H enc _ => lifted os started H enc)
theorem proved : Rows.FilterOnceSaid := over
#print axioms proved
/-- The tied card. -/
theorem card : Rows.FilterOnceCardSaid :=
  Claim7.holds_tied_plain_at .later [] [.data, .data, .data, .data, .pinned] true (true, "4e8dd5d68685befafbd1cd5cf4c872e1dd34d9462c621f0c057104b523e182c1") false over (fun _ h => by cases h) (by kernel_rfl) (fun _ h => by cases h) filterOnce_row_tie rfl ⟨rfl, rfl⟩ (by kernel_rfl) rfl
    (fun f fn hf hfn => by
      obtain rfl : f = 3 := Option.some.inj ((show Tryd.prog.funcNamed "toll/tolllaw07.FilterOnce" = some 3 by kernel_rfl).symm.trans hf) |>.symm
      obtain rfl : fn = Tryd.f3 := (Option.some.inj (Tryd.func3.symm.trans hfn)).symm
      exact ⟨by kernel_rfl, fun j t ht => by
        rw [Tryd.params3] at ht
        have hm : t ∈ [22, 5] := by simpa using Array.mem_of_getElem? ht
        have hall : ([22, 5].all fun u => !Tryd.prog.wantsStandIn u) = true := by kernel_rfl
        exact (show Tryd.prog.wantsStandIn t = false by simpa using List.all_eq_true.1 hall t hm)⟩)
    (by kernel_rfl)
#print axioms card
end Go.Proofs.YtfdopmjgiakcdaaDoor.filterOnce
namespace Go.Proofs.YtfdopmjgiakcdaaDoor
/-- The statement, under a short name, for the claim. -/
theorem filterOnce_holds : Rows.FilterOnceCardSaid := filterOnce.card
end Go.Proofs.YtfdopmjgiakcdaaDoor
