/-
  NARROWER THAN 'FOR EVERY INPUT', by the rows' own cells (each row's printed sentence says how): RuleHolds: laid · RuleRanks: laid · RuleFirst: laid · RuleLess: laid · RuleOwn: laid · RuleTurns: laid.
  DERIVED. THE GIVEN ROWS OF THIS SEAT. 6 by the template 'for every input the law returns true; each argument reads behind the call as it read before'; 0 by the template 'total and deterministic' (their statements: YtompldnifiieaaaDoorTotals.lean).
  GIVEN WITH THE SEED: the statements are not yours to turn. If you find one false, say at which input.
  Laid BY PROGRAM, IN A SANDBOX (cutbox-rows.mjs): the forced cells as the released guide's own fill.sh prints them over the translation 35a2918c93491544… (all of the seat's roots in one cut). By AI agents, Wed Nov 11 2026. No macro, syntax, notation, axiom, sorry.
-/
import Derived.Test.YtompldnifiieaaaDoorChecked
import GoSem.PinnedTables
import GoSem.Claim
import GoSem.ClaimJoined
import GoSem.ClaimMapViews
import Derived.JoinedTies
import Derived.KernelRfl
namespace Go.Proofs.YtompldnifiieaaaDoor
/- THE CELL 'sum', in the pinned program and in every row, IS THE sha256 OF THE DUMP (.gsa) THAT YtompldnifiieaaaDoorProg.lean LOADS. Nothing in Lean hashes anything: it is a label: what it is worth is what the hold of that sum in a sandbox is worth. -/
noncomputable def Tryd.pinned : Pinned := { name := "ytompldnifiieaaadoor", sum := "35a2918c934915445bc16cccbad03d4561646348d1039c8d88d097315cc1f989", checked := Tryd.checked }
namespace Rows
def none {H : Type} : Left H := { results := [], args := [] }

/- WHAT THE LISTED PACKAGE-LEVEL VARIABLES READ AS WHEN THE CALL BEGINS. Each datum BY PROGRAM (the guide's laid-datum.mjs) off the statement by which the dump's own 'gosem.cut.vars' lays the variable. In a bare row this is a premise. The card (YtompldnifiieaaaDoorCards.lean) ties it to the program's text. -/
def laid_unicode_utf8_acceptRanges {H : Type} : DataW H := .agg [.agg [.lit (.int .u8 128), .lit (.int .u8 191)], .agg [.lit (.int .u8 160), .lit (.int .u8 191)], .agg [.lit (.int .u8 128), .lit (.int .u8 159)], .agg [.lit (.int .u8 144), .lit (.int .u8 191)], .agg [.lit (.int .u8 128), .lit (.int .u8 143)], .agg [.lit (.int .u8 0), .lit (.int .u8 0)], .agg [.lit (.int .u8 0), .lit (.int .u8 0)], .agg [.lit (.int .u8 0), .lit (.int .u8 0)], .agg [.lit (.int .u8 0), .lit (.int .u8 0)], .agg [.lit (.int .u8 0), .lit (.int .u8 0)], .agg [.lit (.int .u8 0), .lit (.int .u8 0)], .agg [.lit (.int .u8 0), .lit (.int .u8 0)], .agg [.lit (.int .u8 0), .lit (.int .u8 0)], .agg [.lit (.int .u8 0), .lit (.int .u8 0)], .agg [.lit (.int .u8 0), .lit (.int .u8 0)], .agg [.lit (.int .u8 0), .lit (.int .u8 0)]]
/-- One of Go's own tables, pinned by name: the form's constant. -/
def laid_unicode_utf8_first : DataW Unit := Go.Pinned.utf8First

/-- 'tolllaw06.RuleHolds': WHATEVER THE INPUT: true; the input reads as it did. -/
def ruleHoldsSpec : ChangeSpec := { name := "ruleHolds", fn := fun _ => fun
  | [d1, d2, d3] => { results := [.lit (.bool true)], args := [d1, d2, d3] }
  | _ => none }
def ruleHoldsRow : OpenClaim := { program := "ytompldnifiieaaadoor", sum := "35a2918c934915445bc16cccbad03d4561646348d1039c8d88d097315cc1f989", func := "toll/tolllaw06.RuleHolds", spec := "ruleHolds", inPlace := ["internal/bytealg.IndexByteString", "internal/bytealg.IndexString"], unfollowed := true, recurses := true, named := ["unicode/utf8.first", "unicode/utf8.acceptRanges", "internal/bytealg.MaxLen"], apart := false, laid := [("unicode/utf8.acceptRanges", laid_unicode_utf8_acceptRanges), ("unicode/utf8.first", laid_unicode_utf8_first)] }
def RuleHoldsSaid : Prop := ruleHoldsRow.holds Tryd.pinned (OpenSpec.ofChange ruleHoldsSpec)

/-- ITS FALSE NEIGHBOUR: 'it returns false'. Refute it at one input. -/
def ruleHoldsWrong : ChangeSpec := { name := "ruleHolds", fn := fun _ => fun
  | [d1, d2, d3] => { results := [.lit (.bool false)], args := [d1, d2, d3] }
  | _ => none }
def RuleHoldsWrongFalsely : Prop := ruleHoldsRow.holds Tryd.pinned (OpenSpec.ofChange ruleHoldsWrong)

/-- 'tolllaw06.RuleRanks': WHATEVER THE INPUT: true; the input reads as it did. -/
def ruleRanksSpec : ChangeSpec := { name := "ruleRanks", fn := fun _ => fun
  | [d1, d2, d3] => { results := [.lit (.bool true)], args := [d1, d2, d3] }
  | _ => none }
def ruleRanksRow : OpenClaim := { program := "ytompldnifiieaaadoor", sum := "35a2918c934915445bc16cccbad03d4561646348d1039c8d88d097315cc1f989", func := "toll/tolllaw06.RuleRanks", spec := "ruleRanks", inPlace := ["internal/bytealg.IndexByteString", "internal/bytealg.IndexString"], unfollowed := true, recurses := true, named := ["unicode/utf8.first", "unicode/utf8.acceptRanges", "internal/bytealg.MaxLen"], apart := false, laid := [("unicode/utf8.acceptRanges", laid_unicode_utf8_acceptRanges), ("unicode/utf8.first", laid_unicode_utf8_first)] }
def RuleRanksSaid : Prop := ruleRanksRow.holds Tryd.pinned (OpenSpec.ofChange ruleRanksSpec)

/-- ITS FALSE NEIGHBOUR: 'it returns false'. Refute it at one input. -/
def ruleRanksWrong : ChangeSpec := { name := "ruleRanks", fn := fun _ => fun
  | [d1, d2, d3] => { results := [.lit (.bool false)], args := [d1, d2, d3] }
  | _ => none }
def RuleRanksWrongFalsely : Prop := ruleRanksRow.holds Tryd.pinned (OpenSpec.ofChange ruleRanksWrong)

/-- 'tolllaw06.RuleFirst': WHATEVER THE INPUT: true; the input reads as it did. -/
def ruleFirstSpec : ChangeSpec := { name := "ruleFirst", fn := fun _ => fun
  | [d1, d2, d3] => { results := [.lit (.bool true)], args := [d1, d2, d3] }
  | _ => none }
def ruleFirstRow : OpenClaim := { program := "ytompldnifiieaaadoor", sum := "35a2918c934915445bc16cccbad03d4561646348d1039c8d88d097315cc1f989", func := "toll/tolllaw06.RuleFirst", spec := "ruleFirst", inPlace := ["internal/bytealg.IndexByteString", "internal/bytealg.IndexString"], unfollowed := true, recurses := true, named := ["unicode/utf8.first", "unicode/utf8.acceptRanges", "internal/bytealg.MaxLen"], apart := false, laid := [("unicode/utf8.acceptRanges", laid_unicode_utf8_acceptRanges), ("unicode/utf8.first", laid_unicode_utf8_first)] }
def RuleFirstSaid : Prop := ruleFirstRow.holds Tryd.pinned (OpenSpec.ofChange ruleFirstSpec)

/-- ITS FALSE NEIGHBOUR: 'it returns false'. Refute it at one input. -/
def ruleFirstWrong : ChangeSpec := { name := "ruleFirst", fn := fun _ => fun
  | [d1, d2, d3] => { results := [.lit (.bool false)], args := [d1, d2, d3] }
  | _ => none }
def RuleFirstWrongFalsely : Prop := ruleFirstRow.holds Tryd.pinned (OpenSpec.ofChange ruleFirstWrong)

/-- 'tolllaw06.RuleLess': WHATEVER THE INPUT: true; the input reads as it did. -/
def ruleLessSpec : ChangeSpec := { name := "ruleLess", fn := fun _ => fun
  | [d1, d2, d3] => { results := [.lit (.bool true)], args := [d1, d2, d3] }
  | _ => none }
def ruleLessRow : OpenClaim := { program := "ytompldnifiieaaadoor", sum := "35a2918c934915445bc16cccbad03d4561646348d1039c8d88d097315cc1f989", func := "toll/tolllaw06.RuleLess", spec := "ruleLess", inPlace := ["internal/bytealg.IndexByteString", "internal/bytealg.IndexString"], unfollowed := true, recurses := true, named := ["unicode/utf8.first", "unicode/utf8.acceptRanges", "internal/bytealg.MaxLen"], apart := false, laid := [("unicode/utf8.acceptRanges", laid_unicode_utf8_acceptRanges), ("unicode/utf8.first", laid_unicode_utf8_first)] }
def RuleLessSaid : Prop := ruleLessRow.holds Tryd.pinned (OpenSpec.ofChange ruleLessSpec)

/-- ITS FALSE NEIGHBOUR: 'it returns false'. Refute it at one input. -/
def ruleLessWrong : ChangeSpec := { name := "ruleLess", fn := fun _ => fun
  | [d1, d2, d3] => { results := [.lit (.bool false)], args := [d1, d2, d3] }
  | _ => none }
def RuleLessWrongFalsely : Prop := ruleLessRow.holds Tryd.pinned (OpenSpec.ofChange ruleLessWrong)

/-- 'tolllaw06.RuleOwn': WHATEVER THE INPUT: true; the input reads as it did. -/
def ruleOwnSpec : ChangeSpec := { name := "ruleOwn", fn := fun _ => fun
  | [d] => { results := [.lit (.bool true)], args := [d] }
  | _ => none }
def ruleOwnRow : OpenClaim := { program := "ytompldnifiieaaadoor", sum := "35a2918c934915445bc16cccbad03d4561646348d1039c8d88d097315cc1f989", func := "toll/tolllaw06.RuleOwn", spec := "ruleOwn", inPlace := ["internal/bytealg.IndexByteString", "internal/bytealg.IndexString"], unfollowed := true, recurses := true, named := ["unicode/utf8.first", "unicode/utf8.acceptRanges", "internal/bytealg.MaxLen"], apart := false, laid := [("unicode/utf8.acceptRanges", laid_unicode_utf8_acceptRanges), ("unicode/utf8.first", laid_unicode_utf8_first)] }
def RuleOwnSaid : Prop := ruleOwnRow.holds Tryd.pinned (OpenSpec.ofChange ruleOwnSpec)

/-- ITS FALSE NEIGHBOUR: 'it returns false'. Refute it at one input. -/
def ruleOwnWrong : ChangeSpec := { name := "ruleOwn", fn := fun _ => fun
  | [d] => { results := [.lit (.bool false)], args := [d] }
  | _ => none }
def RuleOwnWrongFalsely : Prop := ruleOwnRow.holds Tryd.pinned (OpenSpec.ofChange ruleOwnWrong)

/-- 'tolllaw06.RuleTurns': WHATEVER THE INPUT: true; the input reads as it did. -/
def ruleTurnsSpec : ChangeSpec := { name := "ruleTurns", fn := fun _ => fun
  | [d1, d2, d3] => { results := [.lit (.bool true)], args := [d1, d2, d3] }
  | _ => none }
def ruleTurnsRow : OpenClaim := { program := "ytompldnifiieaaadoor", sum := "35a2918c934915445bc16cccbad03d4561646348d1039c8d88d097315cc1f989", func := "toll/tolllaw06.RuleTurns", spec := "ruleTurns", inPlace := ["internal/bytealg.IndexByteString", "internal/bytealg.IndexString"], unfollowed := true, recurses := true, named := ["unicode/utf8.first", "unicode/utf8.acceptRanges", "internal/bytealg.MaxLen"], apart := false, laid := [("unicode/utf8.acceptRanges", laid_unicode_utf8_acceptRanges), ("unicode/utf8.first", laid_unicode_utf8_first)] }
def RuleTurnsSaid : Prop := ruleTurnsRow.holds Tryd.pinned (OpenSpec.ofChange ruleTurnsSpec)

/-- ITS FALSE NEIGHBOUR: 'it returns false'. Refute it at one input. -/
def ruleTurnsWrong : ChangeSpec := { name := "ruleTurns", fn := fun _ => fun
  | [d1, d2, d3] => { results := [.lit (.bool false)], args := [d1, d2, d3] }
  | _ => none }
def RuleTurnsWrongFalsely : Prop := ruleTurnsRow.holds Tryd.pinned (OpenSpec.ofChange ruleTurnsWrong)

/- THE SECOND FORM. 'bulk': how many values and letters a reading holds, each counted each time it is reached (what is shared counts as often as it is met; a slice's spare places count too). A statement '..UptoSaid' is the law's where the arguments, and the package variables that the reading takes, are together of bulk at most 1048576: NARROWER than '..Said'. Prove '..Said' where nothing that the law and all that it calls make is longer than what came in: it says more and counts as full. Else prove '..UptoSaid'. A law counts once. -/
mutual
def uptoBulk {H : Type} : DataW H → Nat
  | .lit (.string bytes) => bytes.length + 1
  | .lit _ => 1
  | .nil => 1
  | .ptr d => uptoBulk d + 1
  | .slice elems spare => uptoBulkAll elems + uptoBulkAll spare + 1
  | .agg parts => uptoBulkAll parts + 1
  | .iface _ d => uptoBulk d + 1
  | .map entries => uptoBulkEntries entries + 1
  | .held _ => 1
def uptoBulkAll {H : Type} : List (DataW H) → Nat
  | [] => 0
  | d :: r => uptoBulk d + uptoBulkAll r
def uptoBulkEntries {H : Type} : List (Lit × DataW H) → Nat
  | [] => 0
  | x :: r => uptoBulkEntry x + uptoBulkEntries r
def uptoBulkEntry {H : Type} : Lit × DataW H → Nat
  | (.string bytes, d) => bytes.length + uptoBulk d + 1
  | (_, d) => uptoBulk d + 1
 end
def uptoSmall : (H : Type) → List (DataW H) → Bool := fun _ ds => decide (uptoBulkAll ds ≤ 1048576)
def OpenSpec.upto (s : _root_.Go.ChangeSpec) : _root_.Go.OpenSpec := { _root_.Go.OpenSpec.ofChange s with cond := some uptoSmall }

/-- 'tolllaw06.RuleHolds', WHERE WHAT IT READS IS OF BULK AT MOST 1048576: true; the input reads as it did. -/
def ruleHoldsUptoRow : OpenClaim := { program := "ytompldnifiieaaadoor", sum := "35a2918c934915445bc16cccbad03d4561646348d1039c8d88d097315cc1f989", func := "toll/tolllaw06.RuleHolds", spec := "ruleHolds", inPlace := ["internal/bytealg.IndexByteString", "internal/bytealg.IndexString"], unfollowed := true, recurses := true, named := ["unicode/utf8.first", "unicode/utf8.acceptRanges", "internal/bytealg.MaxLen"], apart := false, laid := [("unicode/utf8.acceptRanges", laid_unicode_utf8_acceptRanges), ("unicode/utf8.first", laid_unicode_utf8_first)], narrowed := true }
def RuleHoldsUptoSaid : Prop := ruleHoldsUptoRow.holds Tryd.pinned (OpenSpec.upto ruleHoldsSpec)

/-- 'tolllaw06.RuleRanks', WHERE WHAT IT READS IS OF BULK AT MOST 1048576: true; the input reads as it did. -/
def ruleRanksUptoRow : OpenClaim := { program := "ytompldnifiieaaadoor", sum := "35a2918c934915445bc16cccbad03d4561646348d1039c8d88d097315cc1f989", func := "toll/tolllaw06.RuleRanks", spec := "ruleRanks", inPlace := ["internal/bytealg.IndexByteString", "internal/bytealg.IndexString"], unfollowed := true, recurses := true, named := ["unicode/utf8.first", "unicode/utf8.acceptRanges", "internal/bytealg.MaxLen"], apart := false, laid := [("unicode/utf8.acceptRanges", laid_unicode_utf8_acceptRanges), ("unicode/utf8.first", laid_unicode_utf8_first)], narrowed := true }
def RuleRanksUptoSaid : Prop := ruleRanksUptoRow.holds Tryd.pinned (OpenSpec.upto ruleRanksSpec)

/-- 'tolllaw06.RuleFirst', WHERE WHAT IT READS IS OF BULK AT MOST 1048576: true; the input reads as it did. -/
def ruleFirstUptoRow : OpenClaim := { program := "ytompldnifiieaaadoor", sum := "35a2918c934915445bc16cccbad03d4561646348d1039c8d88d097315cc1f989", func := "toll/tolllaw06.RuleFirst", spec := "ruleFirst", inPlace := ["internal/bytealg.IndexByteString", "internal/bytealg.IndexString"], unfollowed := true, recurses := true, named := ["unicode/utf8.first", "unicode/utf8.acceptRanges", "internal/bytealg.MaxLen"], apart := false, laid := [("unicode/utf8.acceptRanges", laid_unicode_utf8_acceptRanges), ("unicode/utf8.first", laid_unicode_utf8_first)], narrowed := true }
def RuleFirstUptoSaid : Prop := ruleFirstUptoRow.holds Tryd.pinned (OpenSpec.upto ruleFirstSpec)

/-- 'tolllaw06.RuleLess', WHERE WHAT IT READS IS OF BULK AT MOST 1048576: true; the input reads as it did. -/
def ruleLessUptoRow : OpenClaim := { program := "ytompldnifiieaaadoor", sum := "35a2918c934915445bc16cccbad03d4561646348d1039c8d88d097315cc1f989", func := "toll/tolllaw06.RuleLess", spec := "ruleLess", inPlace := ["internal/bytealg.IndexByteString", "internal/bytealg.IndexString"], unfollowed := true, recurses := true, named := ["unicode/utf8.first", "unicode/utf8.acceptRanges", "internal/bytealg.MaxLen"], apart := false, laid := [("unicode/utf8.acceptRanges", laid_unicode_utf8_acceptRanges), ("unicode/utf8.first", laid_unicode_utf8_first)], narrowed := true }
def RuleLessUptoSaid : Prop := ruleLessUptoRow.holds Tryd.pinned (OpenSpec.upto ruleLessSpec)

/-- 'tolllaw06.RuleOwn', WHERE WHAT IT READS IS OF BULK AT MOST 1048576: true; the input reads as it did. -/
def ruleOwnUptoRow : OpenClaim := { program := "ytompldnifiieaaadoor", sum := "35a2918c934915445bc16cccbad03d4561646348d1039c8d88d097315cc1f989", func := "toll/tolllaw06.RuleOwn", spec := "ruleOwn", inPlace := ["internal/bytealg.IndexByteString", "internal/bytealg.IndexString"], unfollowed := true, recurses := true, named := ["unicode/utf8.first", "unicode/utf8.acceptRanges", "internal/bytealg.MaxLen"], apart := false, laid := [("unicode/utf8.acceptRanges", laid_unicode_utf8_acceptRanges), ("unicode/utf8.first", laid_unicode_utf8_first)], narrowed := true }
def RuleOwnUptoSaid : Prop := ruleOwnUptoRow.holds Tryd.pinned (OpenSpec.upto ruleOwnSpec)

/-- 'tolllaw06.RuleTurns', WHERE WHAT IT READS IS OF BULK AT MOST 1048576: true; the input reads as it did. -/
def ruleTurnsUptoRow : OpenClaim := { program := "ytompldnifiieaaadoor", sum := "35a2918c934915445bc16cccbad03d4561646348d1039c8d88d097315cc1f989", func := "toll/tolllaw06.RuleTurns", spec := "ruleTurns", inPlace := ["internal/bytealg.IndexByteString", "internal/bytealg.IndexString"], unfollowed := true, recurses := true, named := ["unicode/utf8.first", "unicode/utf8.acceptRanges", "internal/bytealg.MaxLen"], apart := false, laid := [("unicode/utf8.acceptRanges", laid_unicode_utf8_acceptRanges), ("unicode/utf8.first", laid_unicode_utf8_first)], narrowed := true }
def RuleTurnsUptoSaid : Prop := ruleTurnsUptoRow.holds Tryd.pinned (OpenSpec.upto ruleTurnsSpec)

end Rows
end Go.Proofs.YtompldnifiieaaaDoor
