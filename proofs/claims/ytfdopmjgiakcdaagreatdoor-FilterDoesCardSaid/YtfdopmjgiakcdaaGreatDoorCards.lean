/-
  DERIVED. GIVEN WITH THE SEED: THE CARDS: each row of YtfdopmjgiakcdaaGreatDoorRows.lean that lists a variable, with what it lists TIED to the program's text (the seventh form; the later family's looks); each row that meets fmt, with fmt's text TOLD by the authors' own Lean function (tested against real Go, not proved from fmt's source: count such statements apart). THE CARD IS WHAT COUNTS. Prove the row's statement (the work); the ties are given (YtfdopmjgiakcdaaGreatDoorTie.lean); close each card by the builder's one call (the guide's Derived/Test/ToyasCard.lean, 'card_holds'). Laid BY PROGRAM, IN A SANDBOX (cutbox-door.mjs). By AI agents, Wed Nov 11 2026. No macro, syntax, notation, axiom, sorry.
-/
import Derived.Test.YtfdopmjgiakcdaaGreatDoorRows
import GoSem.ClaimSeven
namespace Go.Proofs.YtfdopmjgiakcdaaGreatDoor
namespace Rows

/-- THE TIED CARD OF 'tolllaw07.FilterMays'. -/
def filterMaysCard : Claim7 := { stood := { row := filterMaysRow, standIns := [], harness := (true, "698e22b77279bde4618dce24c54d96df392f1fdd74224fb0fd239a2efaadcc37"), looks := false }, kinds := [], alts := [], laidByText := true, laidKinds := [.data, .data, .data, .data, .pinned], laidTests := true, laidLooks := .later }
def FilterMaysCardSaid : Prop := Claim7.holds Tryz.pinned (.plain (OpenSpec.ofChange filterMaysSpec)) filterMaysCard

/-- THE TIED CARD OF 'tolllaw07.FilterDoes'. -/
def filterDoesCard : Claim7 := { stood := { row := filterDoesRow, standIns := [], harness := (true, "698e22b77279bde4618dce24c54d96df392f1fdd74224fb0fd239a2efaadcc37"), looks := false }, kinds := [], alts := [], laidByText := true, laidKinds := [.data, .data, .data, .data, .pinned], laidTests := true, laidLooks := .later }
def FilterDoesCardSaid : Prop := Claim7.holds Tryz.pinned (.plain (OpenSpec.ofChange filterDoesSpec)) filterDoesCard

/-- THE TIED CARD OF 'tolllaw07.FilterLeaves'. -/
def filterLeavesCard : Claim7 := { stood := { row := filterLeavesRow, standIns := [], harness := (true, "698e22b77279bde4618dce24c54d96df392f1fdd74224fb0fd239a2efaadcc37"), looks := false }, kinds := [], alts := [], laidByText := true, laidKinds := [.data, .data, .data, .data, .pinned], laidTests := true, laidLooks := .later }
def FilterLeavesCardSaid : Prop := Claim7.holds Tryz.pinned (.plain (OpenSpec.ofChange filterLeavesSpec)) filterLeavesCard

/-- THE TIED CARD OF 'tolllaw07.FilterFields'. -/
def filterFieldsCard : Claim7 := { stood := { row := filterFieldsRow, standIns := [], harness := (true, "698e22b77279bde4618dce24c54d96df392f1fdd74224fb0fd239a2efaadcc37"), looks := false }, kinds := [], alts := [], laidByText := true, laidKinds := [.data, .data, .data, .data, .pinned], laidTests := true, laidLooks := .later }
def FilterFieldsCardSaid : Prop := Claim7.holds Tryz.pinned (.plain (OpenSpec.ofChange filterFieldsSpec)) filterFieldsCard

/-- THE TIED CARD OF 'tolllaw07.FilterAways'. -/
def filterAwaysCard : Claim7 := { stood := { row := filterAwaysRow, standIns := [], harness := (true, "698e22b77279bde4618dce24c54d96df392f1fdd74224fb0fd239a2efaadcc37"), looks := false }, kinds := [], alts := [], laidByText := true, laidKinds := [.data, .data, .data, .data, .pinned], laidTests := true, laidLooks := .later }
def FilterAwaysCardSaid : Prop := Claim7.holds Tryz.pinned (.plain (OpenSpec.ofChange filterAwaysSpec)) filterAwaysCard

/-- THE TIED CARD OF 'tolllaw07.FilterPaths'. -/
def filterPathsCard : Claim7 := { stood := { row := filterPathsRow, standIns := [], harness := (true, "698e22b77279bde4618dce24c54d96df392f1fdd74224fb0fd239a2efaadcc37"), looks := false }, kinds := [], alts := [], laidByText := true, laidKinds := [.data, .data, .data, .data, .pinned], laidTests := true, laidLooks := .later }
def FilterPathsCardSaid : Prop := Claim7.holds Tryz.pinned (.plain (OpenSpec.ofChange filterPathsSpec)) filterPathsCard

/-- THE SECOND FORM's CARD OF 'tolllaw07.FilterMays'. -/
def filterMaysUptoCard : Claim7 := { stood := { row := filterMaysUptoRow, standIns := [], harness := (true, "698e22b77279bde4618dce24c54d96df392f1fdd74224fb0fd239a2efaadcc37"), looks := false }, kinds := [], alts := [], laidByText := true, laidKinds := [.data, .data, .data, .data, .pinned], laidTests := true, laidLooks := .later }
def FilterMaysUptoCardSaid : Prop := Claim7.holds Tryz.pinned (.plain (OpenSpec.upto filterMaysSpec)) filterMaysUptoCard

/-- THE SECOND FORM's CARD OF 'tolllaw07.FilterDoes'. -/
def filterDoesUptoCard : Claim7 := { stood := { row := filterDoesUptoRow, standIns := [], harness := (true, "698e22b77279bde4618dce24c54d96df392f1fdd74224fb0fd239a2efaadcc37"), looks := false }, kinds := [], alts := [], laidByText := true, laidKinds := [.data, .data, .data, .data, .pinned], laidTests := true, laidLooks := .later }
def FilterDoesUptoCardSaid : Prop := Claim7.holds Tryz.pinned (.plain (OpenSpec.upto filterDoesSpec)) filterDoesUptoCard

/-- THE SECOND FORM's CARD OF 'tolllaw07.FilterLeaves'. -/
def filterLeavesUptoCard : Claim7 := { stood := { row := filterLeavesUptoRow, standIns := [], harness := (true, "698e22b77279bde4618dce24c54d96df392f1fdd74224fb0fd239a2efaadcc37"), looks := false }, kinds := [], alts := [], laidByText := true, laidKinds := [.data, .data, .data, .data, .pinned], laidTests := true, laidLooks := .later }
def FilterLeavesUptoCardSaid : Prop := Claim7.holds Tryz.pinned (.plain (OpenSpec.upto filterLeavesSpec)) filterLeavesUptoCard

/-- THE SECOND FORM's CARD OF 'tolllaw07.FilterFields'. -/
def filterFieldsUptoCard : Claim7 := { stood := { row := filterFieldsUptoRow, standIns := [], harness := (true, "698e22b77279bde4618dce24c54d96df392f1fdd74224fb0fd239a2efaadcc37"), looks := false }, kinds := [], alts := [], laidByText := true, laidKinds := [.data, .data, .data, .data, .pinned], laidTests := true, laidLooks := .later }
def FilterFieldsUptoCardSaid : Prop := Claim7.holds Tryz.pinned (.plain (OpenSpec.upto filterFieldsSpec)) filterFieldsUptoCard

/-- THE SECOND FORM's CARD OF 'tolllaw07.FilterAways'. -/
def filterAwaysUptoCard : Claim7 := { stood := { row := filterAwaysUptoRow, standIns := [], harness := (true, "698e22b77279bde4618dce24c54d96df392f1fdd74224fb0fd239a2efaadcc37"), looks := false }, kinds := [], alts := [], laidByText := true, laidKinds := [.data, .data, .data, .data, .pinned], laidTests := true, laidLooks := .later }
def FilterAwaysUptoCardSaid : Prop := Claim7.holds Tryz.pinned (.plain (OpenSpec.upto filterAwaysSpec)) filterAwaysUptoCard

/-- THE SECOND FORM's CARD OF 'tolllaw07.FilterPaths'. -/
def filterPathsUptoCard : Claim7 := { stood := { row := filterPathsUptoRow, standIns := [], harness := (true, "698e22b77279bde4618dce24c54d96df392f1fdd74224fb0fd239a2efaadcc37"), looks := false }, kinds := [], alts := [], laidByText := true, laidKinds := [.data, .data, .data, .data, .pinned], laidTests := true, laidLooks := .later }
def FilterPathsUptoCardSaid : Prop := Claim7.holds Tryz.pinned (.plain (OpenSpec.upto filterPathsSpec)) filterPathsUptoCard
end Rows
end Go.Proofs.YtfdopmjgiakcdaaGreatDoor
