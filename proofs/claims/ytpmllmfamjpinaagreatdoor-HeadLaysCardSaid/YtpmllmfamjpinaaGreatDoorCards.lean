/-
  DERIVED. GIVEN WITH THE SEED: THE CARDS: each row of YtpmllmfamjpinaaGreatDoorRows.lean that lists a variable, with what it lists TIED to the program's text (the seventh form; the later family's looks); each row that meets fmt, with fmt's text TOLD by the authors' own Lean function (tested against real Go, not proved from fmt's source: count such statements apart). THE CARD IS WHAT COUNTS. Prove the row's statement (the work); the ties are given (YtpmllmfamjpinaaGreatDoorTie.lean); close each card by the builder's one call (the guide's Derived/Test/ToyasCard.lean, 'card_holds'). Laid BY PROGRAM, IN A SANDBOX (cutbox-door.mjs). By AI agents, Wed Nov 11 2026. No macro, syntax, notation, axiom, sorry.
-/
import Derived.Test.YtpmllmfamjpinaaGreatDoorRows
import GoSem.ClaimSeven
namespace Go.Proofs.YtpmllmfamjpinaaGreatDoor
namespace Rows

/-- THE TIED CARD OF 'tolllaw18.HeadLays'. -/
def headLaysCard : Claim7 := { stood := { row := headLaysRow, standIns := [], harness := (true, "79c5dfccca2af220d22aa9bde8af31617b4cbf40a6e6e3549edcdcf3145d332b"), looks := false }, kinds := [], alts := [], laidByText := true, laidKinds := [.data, .pinned], laidTests := true, laidLooks := .later }
def HeadLaysCardSaid : Prop := Claim7.holds Tryz.pinned (.plain (OpenSpec.ofChange headLaysSpec)) headLaysCard

/-- THE SECOND FORM's CARD OF 'tolllaw18.HeadLays'. -/
def headLaysUptoCard : Claim7 := { stood := { row := headLaysUptoRow, standIns := [], harness := (true, "79c5dfccca2af220d22aa9bde8af31617b4cbf40a6e6e3549edcdcf3145d332b"), looks := false }, kinds := [], alts := [], laidByText := true, laidKinds := [.data, .pinned], laidTests := true, laidLooks := .later }
def HeadLaysUptoCardSaid : Prop := Claim7.holds Tryz.pinned (.plain (OpenSpec.upto headLaysSpec)) headLaysUptoCard
end Rows
end Go.Proofs.YtpmllmfamjpinaaGreatDoor
