/-
  No cell of these rows narrows 'for every input' (looked for: loops, veiled, ifaces, maps, wideKeys, modest, calm, conditions, laid).
  DERIVED. THE GIVEN ROWS OF THIS SEAT. 6 by the template 'for every input the law returns true; each argument reads behind the call as it read before'; 0 by the template 'total and deterministic' (their statements: YtnldeohdojemlaaTotals.lean).
  GIVEN WITH THE SEED: the statements are not yours to turn. If you find one false, say at which input.
  Laid BY PROGRAM, IN A SANDBOX (cutbox-rows.mjs): the forced cells as the released guide's own fill.sh prints them over the translation 9bf2dd2c8b6a7c89… (all of the seat's roots in one cut). By AI agents, Wed Nov 11 2026. No macro, syntax, notation, axiom, sorry.
-/
import Derived.Test.YtnldeohdojemlaaChecked
import GoSem.Claim
import GoSem.ClaimJoined
import GoSem.ClaimMapViews
import Derived.JoinedTies
import Derived.KernelRfl
namespace Go.Proofs.Ytnldeohdojemlaa
/- THE CELL 'sum', in the pinned program and in every row, IS THE sha256 OF THE DUMP (.gsa) THAT YtnldeohdojemlaaProg.lean LOADS. Nothing in Lean hashes anything: it is a label: what it is worth is what the hold of that sum in a sandbox is worth. -/
noncomputable def Try.pinned : Pinned := { name := "ytnldeohdojemlaa", sum := "9bf2dd2c8b6a7c897365441a012e1fa98ea1e37f1eda86b054fa93dae13ad7ae", checked := Try.checked }
namespace Rows
def none {H : Type} : Left H := { results := [], args := [] }

/-- 'tolllaw05.PairsSets': WHATEVER THE INPUT: true; the input reads as it did. -/
def pairsSetsSpec : ChangeSpec := { name := "pairsSets", fn := fun _ => fun
  | [d1, d2, d3] => { results := [.lit (.bool true)], args := [d1, d2, d3] }
  | _ => none }
def pairsSetsRow : OpenClaim := { program := "ytnldeohdojemlaa", sum := "9bf2dd2c8b6a7c897365441a012e1fa98ea1e37f1eda86b054fa93dae13ad7ae", func := "toll/tolllaw05.PairsSets", spec := "pairsSets", inPlace := ["slices.overlaps[toll/api.Pair]"], unfollowed := true, recurses := true, apart := false }
def PairsSetsSaid : Prop := pairsSetsRow.holds Try.pinned (OpenSpec.ofChange pairsSetsSpec)

/-- ITS FALSE NEIGHBOUR: 'it returns false'. Refute it at one input. -/
def pairsSetsWrong : ChangeSpec := { name := "pairsSets", fn := fun _ => fun
  | [d1, d2, d3] => { results := [.lit (.bool false)], args := [d1, d2, d3] }
  | _ => none }
def PairsSetsWrongFalsely : Prop := pairsSetsRow.holds Try.pinned (OpenSpec.ofChange pairsSetsWrong)

/-- 'tolllaw05.PairsHolds': WHATEVER THE INPUT: true; the input reads as it did. -/
def pairsHoldsSpec : ChangeSpec := { name := "pairsHolds", fn := fun _ => fun
  | [d1, d2, d3] => { results := [.lit (.bool true)], args := [d1, d2, d3] }
  | _ => none }
def pairsHoldsRow : OpenClaim := { program := "ytnldeohdojemlaa", sum := "9bf2dd2c8b6a7c897365441a012e1fa98ea1e37f1eda86b054fa93dae13ad7ae", func := "toll/tolllaw05.PairsHolds", spec := "pairsHolds", inPlace := ["slices.overlaps[toll/api.Pair]"], unfollowed := true, recurses := true, apart := false }
def PairsHoldsSaid : Prop := pairsHoldsRow.holds Try.pinned (OpenSpec.ofChange pairsHoldsSpec)

/-- ITS FALSE NEIGHBOUR: 'it returns false'. Refute it at one input. -/
def pairsHoldsWrong : ChangeSpec := { name := "pairsHolds", fn := fun _ => fun
  | [d1, d2, d3] => { results := [.lit (.bool false)], args := [d1, d2, d3] }
  | _ => none }
def PairsHoldsWrongFalsely : Prop := pairsHoldsRow.holds Try.pinned (OpenSpec.ofChange pairsHoldsWrong)

/-- 'tolllaw05.PairsAsks': WHATEVER THE INPUT: true; the input reads as it did. -/
def pairsAsksSpec : ChangeSpec := { name := "pairsAsks", fn := fun _ => fun
  | [d1, d2, d3] => { results := [.lit (.bool true)], args := [d1, d2, d3] }
  | _ => none }
def pairsAsksRow : OpenClaim := { program := "ytnldeohdojemlaa", sum := "9bf2dd2c8b6a7c897365441a012e1fa98ea1e37f1eda86b054fa93dae13ad7ae", func := "toll/tolllaw05.PairsAsks", spec := "pairsAsks", inPlace := ["slices.overlaps[toll/api.Pair]"], unfollowed := true, recurses := true, apart := false }
def PairsAsksSaid : Prop := pairsAsksRow.holds Try.pinned (OpenSpec.ofChange pairsAsksSpec)

/-- ITS FALSE NEIGHBOUR: 'it returns false'. Refute it at one input. -/
def pairsAsksWrong : ChangeSpec := { name := "pairsAsks", fn := fun _ => fun
  | [d1, d2, d3] => { results := [.lit (.bool false)], args := [d1, d2, d3] }
  | _ => none }
def PairsAsksWrongFalsely : Prop := pairsAsksRow.holds Try.pinned (OpenSpec.ofChange pairsAsksWrong)

/-- 'tolllaw05.PairsTwice': WHATEVER THE INPUT: true; the input reads as it did. -/
def pairsTwiceSpec : ChangeSpec := { name := "pairsTwice", fn := fun _ => fun
  | [d1, d2, d3] => { results := [.lit (.bool true)], args := [d1, d2, d3] }
  | _ => none }
def pairsTwiceRow : OpenClaim := { program := "ytnldeohdojemlaa", sum := "9bf2dd2c8b6a7c897365441a012e1fa98ea1e37f1eda86b054fa93dae13ad7ae", func := "toll/tolllaw05.PairsTwice", spec := "pairsTwice", inPlace := ["slices.overlaps[toll/api.Pair]"], unfollowed := true, recurses := true, apart := false }
def PairsTwiceSaid : Prop := pairsTwiceRow.holds Try.pinned (OpenSpec.ofChange pairsTwiceSpec)

/-- ITS FALSE NEIGHBOUR: 'it returns false'. Refute it at one input. -/
def pairsTwiceWrong : ChangeSpec := { name := "pairsTwice", fn := fun _ => fun
  | [d1, d2, d3] => { results := [.lit (.bool false)], args := [d1, d2, d3] }
  | _ => none }
def PairsTwiceWrongFalsely : Prop := pairsTwiceRow.holds Try.pinned (OpenSpec.ofChange pairsTwiceWrong)

/-- 'tolllaw05.PairsOnce': WHATEVER THE INPUT: true; the input reads as it did. -/
def pairsOnceSpec : ChangeSpec := { name := "pairsOnce", fn := fun _ => fun
  | [d] => { results := [.lit (.bool true)], args := [d] }
  | _ => none }
def pairsOnceRow : OpenClaim := { program := "ytnldeohdojemlaa", sum := "9bf2dd2c8b6a7c897365441a012e1fa98ea1e37f1eda86b054fa93dae13ad7ae", func := "toll/tolllaw05.PairsOnce", spec := "pairsOnce", inPlace := ["slices.overlaps[toll/api.Pair]"], unfollowed := true, recurses := true, apart := false }
def PairsOnceSaid : Prop := pairsOnceRow.holds Try.pinned (OpenSpec.ofChange pairsOnceSpec)

/-- ITS FALSE NEIGHBOUR: 'it returns false'. Refute it at one input. -/
def pairsOnceWrong : ChangeSpec := { name := "pairsOnce", fn := fun _ => fun
  | [d] => { results := [.lit (.bool false)], args := [d] }
  | _ => none }
def PairsOnceWrongFalsely : Prop := pairsOnceRow.holds Try.pinned (OpenSpec.ofChange pairsOnceWrong)

/-- 'tolllaw05.PairsAdds': WHATEVER THE INPUT: true; the input reads as it did. -/
def pairsAddsSpec : ChangeSpec := { name := "pairsAdds", fn := fun _ => fun
  | [d1, d2, d3] => { results := [.lit (.bool true)], args := [d1, d2, d3] }
  | _ => none }
def pairsAddsRow : OpenClaim := { program := "ytnldeohdojemlaa", sum := "9bf2dd2c8b6a7c897365441a012e1fa98ea1e37f1eda86b054fa93dae13ad7ae", func := "toll/tolllaw05.PairsAdds", spec := "pairsAdds", inPlace := ["slices.overlaps[toll/api.Pair]"], unfollowed := true, recurses := true, apart := false }
def PairsAddsSaid : Prop := pairsAddsRow.holds Try.pinned (OpenSpec.ofChange pairsAddsSpec)

/-- ITS FALSE NEIGHBOUR: 'it returns false'. Refute it at one input. -/
def pairsAddsWrong : ChangeSpec := { name := "pairsAdds", fn := fun _ => fun
  | [d1, d2, d3] => { results := [.lit (.bool false)], args := [d1, d2, d3] }
  | _ => none }
def PairsAddsWrongFalsely : Prop := pairsAddsRow.holds Try.pinned (OpenSpec.ofChange pairsAddsWrong)

/- THE SECOND FORM. 'bulk': how many values and letters a reading holds, each counted each time it is reached (what is shared counts as often as it is met; a slice's spare places count too). A statement '..UptoSaid' is the law's where the arguments, and the package variables that the reading takes, are together of bulk at most 1048576: NARROWER than '..Said'. Prove '..Said' where nothing that the law and all that it calls make is longer than what came in: it says more and counts as full. Else prove '..UptoSaid'. A law counts once. -/
mutual
def uptoBulk {H : Type} : DataW H → Nat
  | .lit (.string bytes) => bytes.length + 1
  | .lit _ => 1
  | .nil => 1
  | .ptr d => uptoBulk d + 1
  | .slice elems spare => uptoBulkAll elems + uptoBulkAll spare + 1
  | .agg parts => uptoBulkAll parts + 1
  | .iface _ d => uptoBulk d + 1
  | .map entries => uptoBulkEntries entries + 1
  | .held _ => 1
def uptoBulkAll {H : Type} : List (DataW H) → Nat
  | [] => 0
  | d :: r => uptoBulk d + uptoBulkAll r
def uptoBulkEntries {H : Type} : List (Lit × DataW H) → Nat
  | [] => 0
  | x :: r => uptoBulkEntry x + uptoBulkEntries r
def uptoBulkEntry {H : Type} : Lit × DataW H → Nat
  | (.string bytes, d) => bytes.length + uptoBulk d + 1
  | (_, d) => uptoBulk d + 1
 end
def uptoSmall : (H : Type) → List (DataW H) → Bool := fun _ ds => decide (uptoBulkAll ds ≤ 1048576)
def OpenSpec.upto (s : _root_.Go.ChangeSpec) : _root_.Go.OpenSpec := { _root_.Go.OpenSpec.ofChange s with cond := some uptoSmall }

/-- 'tolllaw05.PairsSets', WHERE WHAT IT READS IS OF BULK AT MOST 1048576: true; the input reads as it did. -/
def pairsSetsUptoRow : OpenClaim := { program := "ytnldeohdojemlaa", sum := "9bf2dd2c8b6a7c897365441a012e1fa98ea1e37f1eda86b054fa93dae13ad7ae", func := "toll/tolllaw05.PairsSets", spec := "pairsSets", inPlace := ["slices.overlaps[toll/api.Pair]"], unfollowed := true, recurses := true, apart := false, narrowed := true }
def PairsSetsUptoSaid : Prop := pairsSetsUptoRow.holds Try.pinned (OpenSpec.upto pairsSetsSpec)

/-- 'tolllaw05.PairsHolds', WHERE WHAT IT READS IS OF BULK AT MOST 1048576: true; the input reads as it did. -/
def pairsHoldsUptoRow : OpenClaim := { program := "ytnldeohdojemlaa", sum := "9bf2dd2c8b6a7c897365441a012e1fa98ea1e37f1eda86b054fa93dae13ad7ae", func := "toll/tolllaw05.PairsHolds", spec := "pairsHolds", inPlace := ["slices.overlaps[toll/api.Pair]"], unfollowed := true, recurses := true, apart := false, narrowed := true }
def PairsHoldsUptoSaid : Prop := pairsHoldsUptoRow.holds Try.pinned (OpenSpec.upto pairsHoldsSpec)

/-- 'tolllaw05.PairsAsks', WHERE WHAT IT READS IS OF BULK AT MOST 1048576: true; the input reads as it did. -/
def pairsAsksUptoRow : OpenClaim := { program := "ytnldeohdojemlaa", sum := "9bf2dd2c8b6a7c897365441a012e1fa98ea1e37f1eda86b054fa93dae13ad7ae", func := "toll/tolllaw05.PairsAsks", spec := "pairsAsks", inPlace := ["slices.overlaps[toll/api.Pair]"], unfollowed := true, recurses := true, apart := false, narrowed := true }
def PairsAsksUptoSaid : Prop := pairsAsksUptoRow.holds Try.pinned (OpenSpec.upto pairsAsksSpec)

/-- 'tolllaw05.PairsTwice', WHERE WHAT IT READS IS OF BULK AT MOST 1048576: true; the input reads as it did. -/
def pairsTwiceUptoRow : OpenClaim := { program := "ytnldeohdojemlaa", sum := "9bf2dd2c8b6a7c897365441a012e1fa98ea1e37f1eda86b054fa93dae13ad7ae", func := "toll/tolllaw05.PairsTwice", spec := "pairsTwice", inPlace := ["slices.overlaps[toll/api.Pair]"], unfollowed := true, recurses := true, apart := false, narrowed := true }
def PairsTwiceUptoSaid : Prop := pairsTwiceUptoRow.holds Try.pinned (OpenSpec.upto pairsTwiceSpec)

/-- 'tolllaw05.PairsOnce', WHERE WHAT IT READS IS OF BULK AT MOST 1048576: true; the input reads as it did. -/
def pairsOnceUptoRow : OpenClaim := { program := "ytnldeohdojemlaa", sum := "9bf2dd2c8b6a7c897365441a012e1fa98ea1e37f1eda86b054fa93dae13ad7ae", func := "toll/tolllaw05.PairsOnce", spec := "pairsOnce", inPlace := ["slices.overlaps[toll/api.Pair]"], unfollowed := true, recurses := true, apart := false, narrowed := true }
def PairsOnceUptoSaid : Prop := pairsOnceUptoRow.holds Try.pinned (OpenSpec.upto pairsOnceSpec)

/-- 'tolllaw05.PairsAdds', WHERE WHAT IT READS IS OF BULK AT MOST 1048576: true; the input reads as it did. -/
def pairsAddsUptoRow : OpenClaim := { program := "ytnldeohdojemlaa", sum := "9bf2dd2c8b6a7c897365441a012e1fa98ea1e37f1eda86b054fa93dae13ad7ae", func := "toll/tolllaw05.PairsAdds", spec := "pairsAdds", inPlace := ["slices.overlaps[toll/api.Pair]"], unfollowed := true, recurses := true, apart := false, narrowed := true }
def PairsAddsUptoSaid : Prop := pairsAddsUptoRow.holds Try.pinned (OpenSpec.upto pairsAddsSpec)

end Rows
end Go.Proofs.Ytnldeohdojemlaa
