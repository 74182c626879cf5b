/-
  DERIVED. GIVEN WITH THE SEED: THE CARDS: each row of YtnldeohdojemlaaDoorRows.lean that lists a variable, with what it lists TIED to the program's text (the seventh form; the later family's looks); each row that meets fmt, with fmt's text TOLD by the authors' own Lean function (tested against real Go, not proved from fmt's source: count such statements apart). THE CARD IS WHAT COUNTS. Prove the row's statement (the work); the ties are given (YtnldeohdojemlaaDoorTie.lean); close each card by the builder's one call (the guide's Derived/Test/ToyasCard.lean, 'card_holds'). Laid BY PROGRAM, IN A SANDBOX (cutbox-door.mjs). By AI agents, Wed Nov 11 2026. No macro, syntax, notation, axiom, sorry.
-/
import Derived.Test.YtnldeohdojemlaaDoorRows
import GoSem.ClaimSeven
namespace Go.Proofs.YtnldeohdojemlaaDoor
namespace Rows

/-- THE TIED CARD OF 'tolllaw05.PairsTells'. -/
def pairsTellsCard : Claim7 := { stood := { row := pairsTellsRow, standIns := [], harness := (true, "48b6d11ef8889ac4272f399380217159b3169c6e34deae8f424a057862645ef0"), looks := false }, kinds := [], alts := [], laidByText := true, laidKinds := [.data, .pinned], laidTests := true, laidLooks := .later }
def PairsTellsCardSaid : Prop := Claim7.holds Tryd.pinned (.plain (OpenSpec.ofChange pairsTellsSpec)) pairsTellsCard

/-- THE SECOND FORM's CARD OF 'tolllaw05.PairsTells'. -/
def pairsTellsUptoCard : Claim7 := { stood := { row := pairsTellsUptoRow, standIns := [], harness := (true, "48b6d11ef8889ac4272f399380217159b3169c6e34deae8f424a057862645ef0"), looks := false }, kinds := [], alts := [], laidByText := true, laidKinds := [.data, .pinned], laidTests := true, laidLooks := .later }
def PairsTellsUptoCardSaid : Prop := Claim7.holds Tryd.pinned (.plain (OpenSpec.upto pairsTellsSpec)) pairsTellsUptoCard
end Rows
end Go.Proofs.YtnldeohdojemlaaDoor
