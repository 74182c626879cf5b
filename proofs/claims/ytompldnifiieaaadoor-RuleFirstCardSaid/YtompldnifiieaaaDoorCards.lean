/-
  DERIVED. GIVEN WITH THE SEED: THE CARDS: each row of YtompldnifiieaaaDoorRows.lean that lists a variable, with what it lists TIED to the program's text (the seventh form; the later family's looks); each row that meets fmt, with fmt's text TOLD by the authors' own Lean function (tested against real Go, not proved from fmt's source: count such statements apart). THE CARD IS WHAT COUNTS. Prove the row's statement (the work); the ties are given (YtompldnifiieaaaDoorTie.lean); close each card by the builder's one call (the guide's Derived/Test/ToyasCard.lean, 'card_holds'). Laid BY PROGRAM, IN A SANDBOX (cutbox-door.mjs). By AI agents, Wed Nov 11 2026. No macro, syntax, notation, axiom, sorry.
-/
import Derived.Test.YtompldnifiieaaaDoorRows
import GoSem.ClaimSeven
namespace Go.Proofs.YtompldnifiieaaaDoor
namespace Rows

/-- THE TIED CARD OF 'tolllaw06.RuleHolds'. -/
def ruleHoldsCard : Claim7 := { stood := { row := ruleHoldsRow, standIns := [], harness := (true, "3fa56adf22e1458633310c33cfa1de82d74530d3a0c7c028779dc305619f56b4"), looks := false }, kinds := [], alts := [], laidByText := true, laidKinds := [.data, .pinned], laidTests := true, laidLooks := .later }
def RuleHoldsCardSaid : Prop := Claim7.holds Tryd.pinned (.plain (OpenSpec.ofChange ruleHoldsSpec)) ruleHoldsCard

/-- THE TIED CARD OF 'tolllaw06.RuleRanks'. -/
def ruleRanksCard : Claim7 := { stood := { row := ruleRanksRow, standIns := [], harness := (true, "3fa56adf22e1458633310c33cfa1de82d74530d3a0c7c028779dc305619f56b4"), looks := false }, kinds := [], alts := [], laidByText := true, laidKinds := [.data, .pinned], laidTests := true, laidLooks := .later }
def RuleRanksCardSaid : Prop := Claim7.holds Tryd.pinned (.plain (OpenSpec.ofChange ruleRanksSpec)) ruleRanksCard

/-- THE TIED CARD OF 'tolllaw06.RuleFirst'. -/
def ruleFirstCard : Claim7 := { stood := { row := ruleFirstRow, standIns := [], harness := (true, "3fa56adf22e1458633310c33cfa1de82d74530d3a0c7c028779dc305619f56b4"), looks := false }, kinds := [], alts := [], laidByText := true, laidKinds := [.data, .pinned], laidTests := true, laidLooks := .later }
def RuleFirstCardSaid : Prop := Claim7.holds Tryd.pinned (.plain (OpenSpec.ofChange ruleFirstSpec)) ruleFirstCard

/-- THE TIED CARD OF 'tolllaw06.RuleLess'. -/
def ruleLessCard : Claim7 := { stood := { row := ruleLessRow, standIns := [], harness := (true, "3fa56adf22e1458633310c33cfa1de82d74530d3a0c7c028779dc305619f56b4"), looks := false }, kinds := [], alts := [], laidByText := true, laidKinds := [.data, .pinned], laidTests := true, laidLooks := .later }
def RuleLessCardSaid : Prop := Claim7.holds Tryd.pinned (.plain (OpenSpec.ofChange ruleLessSpec)) ruleLessCard

/-- THE TIED CARD OF 'tolllaw06.RuleOwn'. -/
def ruleOwnCard : Claim7 := { stood := { row := ruleOwnRow, standIns := [], harness := (true, "3fa56adf22e1458633310c33cfa1de82d74530d3a0c7c028779dc305619f56b4"), looks := false }, kinds := [], alts := [], laidByText := true, laidKinds := [.data, .pinned], laidTests := true, laidLooks := .later }
def RuleOwnCardSaid : Prop := Claim7.holds Tryd.pinned (.plain (OpenSpec.ofChange ruleOwnSpec)) ruleOwnCard

/-- THE TIED CARD OF 'tolllaw06.RuleTurns'. -/
def ruleTurnsCard : Claim7 := { stood := { row := ruleTurnsRow, standIns := [], harness := (true, "3fa56adf22e1458633310c33cfa1de82d74530d3a0c7c028779dc305619f56b4"), looks := false }, kinds := [], alts := [], laidByText := true, laidKinds := [.data, .pinned], laidTests := true, laidLooks := .later }
def RuleTurnsCardSaid : Prop := Claim7.holds Tryd.pinned (.plain (OpenSpec.ofChange ruleTurnsSpec)) ruleTurnsCard

/-- THE SECOND FORM's CARD OF 'tolllaw06.RuleHolds'. -/
def ruleHoldsUptoCard : Claim7 := { stood := { row := ruleHoldsUptoRow, standIns := [], harness := (true, "3fa56adf22e1458633310c33cfa1de82d74530d3a0c7c028779dc305619f56b4"), looks := false }, kinds := [], alts := [], laidByText := true, laidKinds := [.data, .pinned], laidTests := true, laidLooks := .later }
def RuleHoldsUptoCardSaid : Prop := Claim7.holds Tryd.pinned (.plain (OpenSpec.upto ruleHoldsSpec)) ruleHoldsUptoCard

/-- THE SECOND FORM's CARD OF 'tolllaw06.RuleRanks'. -/
def ruleRanksUptoCard : Claim7 := { stood := { row := ruleRanksUptoRow, standIns := [], harness := (true, "3fa56adf22e1458633310c33cfa1de82d74530d3a0c7c028779dc305619f56b4"), looks := false }, kinds := [], alts := [], laidByText := true, laidKinds := [.data, .pinned], laidTests := true, laidLooks := .later }
def RuleRanksUptoCardSaid : Prop := Claim7.holds Tryd.pinned (.plain (OpenSpec.upto ruleRanksSpec)) ruleRanksUptoCard

/-- THE SECOND FORM's CARD OF 'tolllaw06.RuleFirst'. -/
def ruleFirstUptoCard : Claim7 := { stood := { row := ruleFirstUptoRow, standIns := [], harness := (true, "3fa56adf22e1458633310c33cfa1de82d74530d3a0c7c028779dc305619f56b4"), looks := false }, kinds := [], alts := [], laidByText := true, laidKinds := [.data, .pinned], laidTests := true, laidLooks := .later }
def RuleFirstUptoCardSaid : Prop := Claim7.holds Tryd.pinned (.plain (OpenSpec.upto ruleFirstSpec)) ruleFirstUptoCard

/-- THE SECOND FORM's CARD OF 'tolllaw06.RuleLess'. -/
def ruleLessUptoCard : Claim7 := { stood := { row := ruleLessUptoRow, standIns := [], harness := (true, "3fa56adf22e1458633310c33cfa1de82d74530d3a0c7c028779dc305619f56b4"), looks := false }, kinds := [], alts := [], laidByText := true, laidKinds := [.data, .pinned], laidTests := true, laidLooks := .later }
def RuleLessUptoCardSaid : Prop := Claim7.holds Tryd.pinned (.plain (OpenSpec.upto ruleLessSpec)) ruleLessUptoCard

/-- THE SECOND FORM's CARD OF 'tolllaw06.RuleOwn'. -/
def ruleOwnUptoCard : Claim7 := { stood := { row := ruleOwnUptoRow, standIns := [], harness := (true, "3fa56adf22e1458633310c33cfa1de82d74530d3a0c7c028779dc305619f56b4"), looks := false }, kinds := [], alts := [], laidByText := true, laidKinds := [.data, .pinned], laidTests := true, laidLooks := .later }
def RuleOwnUptoCardSaid : Prop := Claim7.holds Tryd.pinned (.plain (OpenSpec.upto ruleOwnSpec)) ruleOwnUptoCard

/-- THE SECOND FORM's CARD OF 'tolllaw06.RuleTurns'. -/
def ruleTurnsUptoCard : Claim7 := { stood := { row := ruleTurnsUptoRow, standIns := [], harness := (true, "3fa56adf22e1458633310c33cfa1de82d74530d3a0c7c028779dc305619f56b4"), looks := false }, kinds := [], alts := [], laidByText := true, laidKinds := [.data, .pinned], laidTests := true, laidLooks := .later }
def RuleTurnsUptoCardSaid : Prop := Claim7.holds Tryd.pinned (.plain (OpenSpec.upto ruleTurnsSpec)) ruleTurnsUptoCard
end Rows
end Go.Proofs.YtompldnifiieaaaDoor
