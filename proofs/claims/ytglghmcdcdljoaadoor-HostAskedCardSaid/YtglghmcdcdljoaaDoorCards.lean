/-
  DERIVED. GIVEN WITH THE SEED: THE CARDS: each row of YtglghmcdcdljoaaDoorRows.lean that lists a variable, with what it lists TIED to the program's text (the seventh form; the later family's looks); each row that meets fmt, with fmt's text TOLD by the authors' own Lean function (tested against real Go, not proved from fmt's source: count such statements apart). THE CARD IS WHAT COUNTS. Prove the row's statement (the work); the ties are given (YtglghmcdcdljoaaDoorTie.lean); close each card by the builder's one call (the guide's Derived/Test/ToyasCard.lean, 'card_holds'). Laid BY PROGRAM, IN A SANDBOX (cutbox-door.mjs). By AI agents, Wed Nov 11 2026. No macro, syntax, notation, axiom, sorry.
-/
import Derived.Test.YtglghmcdcdljoaaDoorRows
import GoSem.ClaimSeven
namespace Go.Proofs.YtglghmcdcdljoaaDoor
namespace Rows

/-- THE TIED CARD OF 'tolllaw02.HostAsked'. -/
def hostAskedCard : Claim7 := { stood := { row := hostAskedRow, standIns := [], harness := (true, "f737dc6350b234c17b99b5865f5743f565b315029ca4a4f40ac626e6086925d1"), looks := false }, kinds := [], alts := [], laidByText := true, laidKinds := [.data, .pinned], laidTests := true, laidLooks := .later }
def HostAskedCardSaid : Prop := Claim7.holds Tryd.pinned (.plain (OpenSpec.ofChange hostAskedSpec)) hostAskedCard

/-- THE SECOND FORM's CARD OF 'tolllaw02.HostAsked'. -/
def hostAskedUptoCard : Claim7 := { stood := { row := hostAskedUptoRow, standIns := [], harness := (true, "f737dc6350b234c17b99b5865f5743f565b315029ca4a4f40ac626e6086925d1"), looks := false }, kinds := [], alts := [], laidByText := true, laidKinds := [.data, .pinned], laidTests := true, laidLooks := .later }
def HostAskedUptoCardSaid : Prop := Claim7.holds Tryd.pinned (.plain (OpenSpec.upto hostAskedSpec)) hostAskedUptoCard
end Rows
end Go.Proofs.YtglghmcdcdljoaaDoor
