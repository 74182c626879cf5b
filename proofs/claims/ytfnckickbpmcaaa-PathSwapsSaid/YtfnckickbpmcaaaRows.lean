/-
  No cell of these rows narrows 'for every input' (looked for: loops, veiled, ifaces, maps, wideKeys, modest, calm, conditions, laid).
  DERIVED. THE GIVEN ROWS OF THIS SEAT. 7 by the template 'for every input the law returns true; each argument reads behind the call as it read before'; 0 by the template 'total and deterministic' (their statements: YtfnckickbpmcaaaTotals.lean).
  GIVEN WITH THE SEED: the statements are not yours to turn. If you find one false, say at which input.
  Laid BY PROGRAM, IN A SANDBOX (cutbox-rows.mjs): the forced cells as the released guide's own fill.sh prints them over the translation 0045cb891e6781b1… (all of the seat's roots in one cut). By AI agents, Wed Nov 11 2026. No macro, syntax, notation, axiom, sorry.
-/
import Derived.Test.YtfnckickbpmcaaaChecked
import GoSem.Claim
import GoSem.ClaimJoined
import GoSem.ClaimMapViews
import Derived.JoinedTies
import Derived.KernelRfl
namespace Go.Proofs.Ytfnckickbpmcaaa
/- THE CELL 'sum', in the pinned program and in every row, IS THE sha256 OF THE DUMP (.gsa) THAT YtfnckickbpmcaaaProg.lean LOADS. Nothing in Lean hashes anything: it is a label: what it is worth is what the hold of that sum in a sandbox is worth. -/
noncomputable def Try.pinned : Pinned := { name := "ytfnckickbpmcaaa", sum := "0045cb891e6781b1619fda7afd7c202d12be487f3247407bf754a5fa8b1723d3", checked := Try.checked }
namespace Rows
def none {H : Type} : Left H := { results := [], args := [] }

/-- 'tolllaw03.PathHolds': WHATEVER THE INPUT: true; the input reads as it did. -/
def pathHoldsSpec : ChangeSpec := { name := "pathHolds", fn := fun _ => fun
  | [d1, d2] => { results := [.lit (.bool true)], args := [d1, d2] }
  | _ => none }
def pathHoldsRow : OpenClaim := { program := "ytfnckickbpmcaaa", sum := "0045cb891e6781b1619fda7afd7c202d12be487f3247407bf754a5fa8b1723d3", func := "toll/tolllaw03.PathHolds", spec := "pathHolds", apart := false }
def PathHoldsSaid : Prop := pathHoldsRow.holds Try.pinned (OpenSpec.ofChange pathHoldsSpec)

/-- ITS FALSE NEIGHBOUR: 'it returns false'. Refute it at one input. -/
def pathHoldsWrong : ChangeSpec := { name := "pathHolds", fn := fun _ => fun
  | [d1, d2] => { results := [.lit (.bool false)], args := [d1, d2] }
  | _ => none }
def PathHoldsWrongFalsely : Prop := pathHoldsRow.holds Try.pinned (OpenSpec.ofChange pathHoldsWrong)

/-- 'tolllaw03.PathBacks': WHATEVER THE INPUT: true; the input reads as it did. -/
def pathBacksSpec : ChangeSpec := { name := "pathBacks", fn := fun _ => fun
  | [d1, d2, d3] => { results := [.lit (.bool true)], args := [d1, d2, d3] }
  | _ => none }
def pathBacksRow : OpenClaim := { program := "ytfnckickbpmcaaa", sum := "0045cb891e6781b1619fda7afd7c202d12be487f3247407bf754a5fa8b1723d3", func := "toll/tolllaw03.PathBacks", spec := "pathBacks", apart := false }
def PathBacksSaid : Prop := pathBacksRow.holds Try.pinned (OpenSpec.ofChange pathBacksSpec)

/-- ITS FALSE NEIGHBOUR: 'it returns false'. Refute it at one input. -/
def pathBacksWrong : ChangeSpec := { name := "pathBacks", fn := fun _ => fun
  | [d1, d2, d3] => { results := [.lit (.bool false)], args := [d1, d2, d3] }
  | _ => none }
def PathBacksWrongFalsely : Prop := pathBacksRow.holds Try.pinned (OpenSpec.ofChange pathBacksWrong)

/-- 'tolllaw03.PathExact': WHATEVER THE INPUT: true; the input reads as it did. -/
def pathExactSpec : ChangeSpec := { name := "pathExact", fn := fun _ => fun
  | [d1, d2] => { results := [.lit (.bool true)], args := [d1, d2] }
  | _ => none }
def pathExactRow : OpenClaim := { program := "ytfnckickbpmcaaa", sum := "0045cb891e6781b1619fda7afd7c202d12be487f3247407bf754a5fa8b1723d3", func := "toll/tolllaw03.PathExact", spec := "pathExact", apart := false }
def PathExactSaid : Prop := pathExactRow.holds Try.pinned (OpenSpec.ofChange pathExactSpec)

/-- ITS FALSE NEIGHBOUR: 'it returns false'. Refute it at one input. -/
def pathExactWrong : ChangeSpec := { name := "pathExact", fn := fun _ => fun
  | [d1, d2] => { results := [.lit (.bool false)], args := [d1, d2] }
  | _ => none }
def PathExactWrongFalsely : Prop := pathExactRow.holds Try.pinned (OpenSpec.ofChange pathExactWrong)

/-- 'tolllaw03.PathChain': WHATEVER THE INPUT: true; the input reads as it did. -/
def pathChainSpec : ChangeSpec := { name := "pathChain", fn := fun _ => fun
  | [d] => { results := [.lit (.bool true)], args := [d] }
  | _ => none }
def pathChainRow : OpenClaim := { program := "ytfnckickbpmcaaa", sum := "0045cb891e6781b1619fda7afd7c202d12be487f3247407bf754a5fa8b1723d3", func := "toll/tolllaw03.PathChain", spec := "pathChain", apart := false }
def PathChainSaid : Prop := pathChainRow.holds Try.pinned (OpenSpec.ofChange pathChainSpec)

/-- ITS FALSE NEIGHBOUR: 'it returns false'. Refute it at one input. -/
def pathChainWrong : ChangeSpec := { name := "pathChain", fn := fun _ => fun
  | [d] => { results := [.lit (.bool false)], args := [d] }
  | _ => none }
def PathChainWrongFalsely : Prop := pathChainRow.holds Try.pinned (OpenSpec.ofChange pathChainWrong)

/-- 'tolllaw03.PathSwaps': WHATEVER THE INPUT: true; the input reads as it did. -/
def pathSwapsSpec : ChangeSpec := { name := "pathSwaps", fn := fun _ => fun
  | [d] => { results := [.lit (.bool true)], args := [d] }
  | _ => none }
def pathSwapsRow : OpenClaim := { program := "ytfnckickbpmcaaa", sum := "0045cb891e6781b1619fda7afd7c202d12be487f3247407bf754a5fa8b1723d3", func := "toll/tolllaw03.PathSwaps", spec := "pathSwaps", apart := false }
def PathSwapsSaid : Prop := pathSwapsRow.holds Try.pinned (OpenSpec.ofChange pathSwapsSpec)

/-- ITS FALSE NEIGHBOUR: 'it returns false'. Refute it at one input. -/
def pathSwapsWrong : ChangeSpec := { name := "pathSwaps", fn := fun _ => fun
  | [d] => { results := [.lit (.bool false)], args := [d] }
  | _ => none }
def PathSwapsWrongFalsely : Prop := pathSwapsRow.holds Try.pinned (OpenSpec.ofChange pathSwapsWrong)

/-- 'tolllaw03.PathOrders': WHATEVER THE INPUT: true; the input reads as it did. -/
def pathOrdersSpec : ChangeSpec := { name := "pathOrders", fn := fun _ => fun
  | [d1, d2, d3] => { results := [.lit (.bool true)], args := [d1, d2, d3] }
  | _ => none }
def pathOrdersRow : OpenClaim := { program := "ytfnckickbpmcaaa", sum := "0045cb891e6781b1619fda7afd7c202d12be487f3247407bf754a5fa8b1723d3", func := "toll/tolllaw03.PathOrders", spec := "pathOrders", apart := false }
def PathOrdersSaid : Prop := pathOrdersRow.holds Try.pinned (OpenSpec.ofChange pathOrdersSpec)

/-- ITS FALSE NEIGHBOUR: 'it returns false'. Refute it at one input. -/
def pathOrdersWrong : ChangeSpec := { name := "pathOrders", fn := fun _ => fun
  | [d1, d2, d3] => { results := [.lit (.bool false)], args := [d1, d2, d3] }
  | _ => none }
def PathOrdersWrongFalsely : Prop := pathOrdersRow.holds Try.pinned (OpenSpec.ofChange pathOrdersWrong)

/-- 'tolllaw03.PathBelow': WHATEVER THE INPUT: true; the input reads as it did. -/
def pathBelowSpec : ChangeSpec := { name := "pathBelow", fn := fun _ => fun
  | [d] => { results := [.lit (.bool true)], args := [d] }
  | _ => none }
def pathBelowRow : OpenClaim := { program := "ytfnckickbpmcaaa", sum := "0045cb891e6781b1619fda7afd7c202d12be487f3247407bf754a5fa8b1723d3", func := "toll/tolllaw03.PathBelow", spec := "pathBelow", apart := false }
def PathBelowSaid : Prop := pathBelowRow.holds Try.pinned (OpenSpec.ofChange pathBelowSpec)

/-- ITS FALSE NEIGHBOUR: 'it returns false'. Refute it at one input. -/
def pathBelowWrong : ChangeSpec := { name := "pathBelow", fn := fun _ => fun
  | [d] => { results := [.lit (.bool false)], args := [d] }
  | _ => none }
def PathBelowWrongFalsely : Prop := pathBelowRow.holds Try.pinned (OpenSpec.ofChange pathBelowWrong)

/- THE SECOND FORM. 'bulk': how many values and letters a reading holds, each counted each time it is reached (what is shared counts as often as it is met; a slice's spare places count too). A statement '..UptoSaid' is the law's where the arguments, and the package variables that the reading takes, are together of bulk at most 1048576: NARROWER than '..Said'. Prove '..Said' where nothing that the law and all that it calls make is longer than what came in: it says more and counts as full. Else prove '..UptoSaid'. A law counts once. -/
mutual
def uptoBulk {H : Type} : DataW H → Nat
  | .lit (.string bytes) => bytes.length + 1
  | .lit _ => 1
  | .nil => 1
  | .ptr d => uptoBulk d + 1
  | .slice elems spare => uptoBulkAll elems + uptoBulkAll spare + 1
  | .agg parts => uptoBulkAll parts + 1
  | .iface _ d => uptoBulk d + 1
  | .map entries => uptoBulkEntries entries + 1
  | .held _ => 1
def uptoBulkAll {H : Type} : List (DataW H) → Nat
  | [] => 0
  | d :: r => uptoBulk d + uptoBulkAll r
def uptoBulkEntries {H : Type} : List (Lit × DataW H) → Nat
  | [] => 0
  | x :: r => uptoBulkEntry x + uptoBulkEntries r
def uptoBulkEntry {H : Type} : Lit × DataW H → Nat
  | (.string bytes, d) => bytes.length + uptoBulk d + 1
  | (_, d) => uptoBulk d + 1
 end
def uptoSmall : (H : Type) → List (DataW H) → Bool := fun _ ds => decide (uptoBulkAll ds ≤ 1048576)
def OpenSpec.upto (s : _root_.Go.ChangeSpec) : _root_.Go.OpenSpec := { _root_.Go.OpenSpec.ofChange s with cond := some uptoSmall }

/-- 'tolllaw03.PathHolds', WHERE WHAT IT READS IS OF BULK AT MOST 1048576: true; the input reads as it did. -/
def pathHoldsUptoRow : OpenClaim := { program := "ytfnckickbpmcaaa", sum := "0045cb891e6781b1619fda7afd7c202d12be487f3247407bf754a5fa8b1723d3", func := "toll/tolllaw03.PathHolds", spec := "pathHolds", apart := false, narrowed := true }
def PathHoldsUptoSaid : Prop := pathHoldsUptoRow.holds Try.pinned (OpenSpec.upto pathHoldsSpec)

/-- 'tolllaw03.PathBacks', WHERE WHAT IT READS IS OF BULK AT MOST 1048576: true; the input reads as it did. -/
def pathBacksUptoRow : OpenClaim := { program := "ytfnckickbpmcaaa", sum := "0045cb891e6781b1619fda7afd7c202d12be487f3247407bf754a5fa8b1723d3", func := "toll/tolllaw03.PathBacks", spec := "pathBacks", apart := false, narrowed := true }
def PathBacksUptoSaid : Prop := pathBacksUptoRow.holds Try.pinned (OpenSpec.upto pathBacksSpec)

/-- 'tolllaw03.PathExact', WHERE WHAT IT READS IS OF BULK AT MOST 1048576: true; the input reads as it did. -/
def pathExactUptoRow : OpenClaim := { program := "ytfnckickbpmcaaa", sum := "0045cb891e6781b1619fda7afd7c202d12be487f3247407bf754a5fa8b1723d3", func := "toll/tolllaw03.PathExact", spec := "pathExact", apart := false, narrowed := true }
def PathExactUptoSaid : Prop := pathExactUptoRow.holds Try.pinned (OpenSpec.upto pathExactSpec)

/-- 'tolllaw03.PathChain', WHERE WHAT IT READS IS OF BULK AT MOST 1048576: true; the input reads as it did. -/
def pathChainUptoRow : OpenClaim := { program := "ytfnckickbpmcaaa", sum := "0045cb891e6781b1619fda7afd7c202d12be487f3247407bf754a5fa8b1723d3", func := "toll/tolllaw03.PathChain", spec := "pathChain", apart := false, narrowed := true }
def PathChainUptoSaid : Prop := pathChainUptoRow.holds Try.pinned (OpenSpec.upto pathChainSpec)

/-- 'tolllaw03.PathSwaps', WHERE WHAT IT READS IS OF BULK AT MOST 1048576: true; the input reads as it did. -/
def pathSwapsUptoRow : OpenClaim := { program := "ytfnckickbpmcaaa", sum := "0045cb891e6781b1619fda7afd7c202d12be487f3247407bf754a5fa8b1723d3", func := "toll/tolllaw03.PathSwaps", spec := "pathSwaps", apart := false, narrowed := true }
def PathSwapsUptoSaid : Prop := pathSwapsUptoRow.holds Try.pinned (OpenSpec.upto pathSwapsSpec)

/-- 'tolllaw03.PathOrders', WHERE WHAT IT READS IS OF BULK AT MOST 1048576: true; the input reads as it did. -/
def pathOrdersUptoRow : OpenClaim := { program := "ytfnckickbpmcaaa", sum := "0045cb891e6781b1619fda7afd7c202d12be487f3247407bf754a5fa8b1723d3", func := "toll/tolllaw03.PathOrders", spec := "pathOrders", apart := false, narrowed := true }
def PathOrdersUptoSaid : Prop := pathOrdersUptoRow.holds Try.pinned (OpenSpec.upto pathOrdersSpec)

/-- 'tolllaw03.PathBelow', WHERE WHAT IT READS IS OF BULK AT MOST 1048576: true; the input reads as it did. -/
def pathBelowUptoRow : OpenClaim := { program := "ytfnckickbpmcaaa", sum := "0045cb891e6781b1619fda7afd7c202d12be487f3247407bf754a5fa8b1723d3", func := "toll/tolllaw03.PathBelow", spec := "pathBelow", apart := false, narrowed := true }
def PathBelowUptoSaid : Prop := pathBelowUptoRow.holds Try.pinned (OpenSpec.upto pathBelowSpec)

end Rows
end Go.Proofs.Ytfnckickbpmcaaa
