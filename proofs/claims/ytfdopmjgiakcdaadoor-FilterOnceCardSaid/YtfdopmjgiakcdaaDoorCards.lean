/-
  DERIVED. GIVEN WITH THE SEED: THE CARDS: each row of YtfdopmjgiakcdaaDoorRows.lean that lists a variable, with what it lists TIED to the program's text (the seventh form; the later family's looks); each row that meets fmt, with fmt's text TOLD by the authors' own Lean function (tested against real Go, not proved from fmt's source: count such statements apart). THE CARD IS WHAT COUNTS. Prove the row's statement (the work); the ties are given (YtfdopmjgiakcdaaDoorTie.lean); close each card by the builder's one call (the guide's Derived/Test/ToyasCard.lean, 'card_holds'). Laid BY PROGRAM, IN A SANDBOX (cutbox-door.mjs). By AI agents, Wed Nov 11 2026. No macro, syntax, notation, axiom, sorry.
-/
import Derived.Test.YtfdopmjgiakcdaaDoorRows
import GoSem.ClaimSeven
namespace Go.Proofs.YtfdopmjgiakcdaaDoor
namespace Rows

/-- THE TIED CARD OF 'tolllaw07.FilterOnce'. -/
def filterOnceCard : Claim7 := { stood := { row := filterOnceRow, standIns := [], harness := (true, "4e8dd5d68685befafbd1cd5cf4c872e1dd34d9462c621f0c057104b523e182c1"), looks := false }, kinds := [], alts := [], laidByText := true, laidKinds := [.data, .data, .data, .data, .pinned], laidTests := true, laidLooks := .later }
def FilterOnceCardSaid : Prop := Claim7.holds Tryd.pinned (.plain (OpenSpec.ofChange filterOnceSpec)) filterOnceCard

/-- THE SECOND FORM's CARD OF 'tolllaw07.FilterOnce'. -/
def filterOnceUptoCard : Claim7 := { stood := { row := filterOnceUptoRow, standIns := [], harness := (true, "4e8dd5d68685befafbd1cd5cf4c872e1dd34d9462c621f0c057104b523e182c1"), looks := false }, kinds := [], alts := [], laidByText := true, laidKinds := [.data, .data, .data, .data, .pinned], laidTests := true, laidLooks := .later }
def FilterOnceUptoCardSaid : Prop := Claim7.holds Tryd.pinned (.plain (OpenSpec.upto filterOnceSpec)) filterOnceUptoCard
end Rows
end Go.Proofs.YtfdopmjgiakcdaaDoor
