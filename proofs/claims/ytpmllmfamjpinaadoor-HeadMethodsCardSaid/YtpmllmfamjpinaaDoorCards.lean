/-
  DERIVED. GIVEN WITH THE SEED: THE CARDS: each row of YtpmllmfamjpinaaDoorRows.lean that lists a variable, with what it lists TIED to the program's text (the seventh form; the later family's looks); each row that meets fmt, with fmt's text TOLD by the authors' own Lean function (tested against real Go, not proved from fmt's source: count such statements apart). THE CARD IS WHAT COUNTS. Prove the row's statement (the work); the ties are given (YtpmllmfamjpinaaDoorTie.lean); close each card by the builder's one call (the guide's Derived/Test/ToyasCard.lean, 'card_holds'). Laid BY PROGRAM, IN A SANDBOX (cutbox-door.mjs). By AI agents, Wed Nov 11 2026. No macro, syntax, notation, axiom, sorry.
-/
import Derived.Test.YtpmllmfamjpinaaDoorRows
import GoSem.ClaimSeven
namespace Go.Proofs.YtpmllmfamjpinaaDoor
namespace Rows

/-- THE TIED CARD OF 'tolllaw18.HeadCuts'. -/
def headCutsCard : Claim7 := { stood := { row := headCutsRow, standIns := [], harness := (true, "dc40a5ac5849acf4f96dfe2cecf95e4e4dd8fdbf1b9e08b90df64219e6dabdb8"), looks := false }, kinds := [], alts := [], laidByText := true, laidKinds := [.data, .pinned], laidTests := true, laidLooks := .later }
def HeadCutsCardSaid : Prop := Claim7.holds Tryd.pinned (.plain (OpenSpec.ofChange headCutsSpec)) headCutsCard

/-- THE TIED CARD OF 'tolllaw18.HeadSizes'. -/
def headSizesCard : Claim7 := { stood := { row := headSizesRow, standIns := [], harness := (true, "dc40a5ac5849acf4f96dfe2cecf95e4e4dd8fdbf1b9e08b90df64219e6dabdb8"), looks := false }, kinds := [], alts := [], laidByText := true, laidKinds := [.data, .pinned], laidTests := true, laidLooks := .later }
def HeadSizesCardSaid : Prop := Claim7.holds Tryd.pinned (.plain (OpenSpec.ofChange headSizesSpec)) headSizesCard

/-- THE TIED CARD OF 'tolllaw18.HeadAgain'. -/
def headAgainCard : Claim7 := { stood := { row := headAgainRow, standIns := [], harness := (true, "dc40a5ac5849acf4f96dfe2cecf95e4e4dd8fdbf1b9e08b90df64219e6dabdb8"), looks := false }, kinds := [], alts := [], laidByText := true, laidKinds := [.data, .pinned], laidTests := true, laidLooks := .later }
def HeadAgainCardSaid : Prop := Claim7.holds Tryd.pinned (.plain (OpenSpec.ofChange headAgainSpec)) headAgainCard

/-- THE TIED CARD OF 'tolllaw18.HeadFields'. -/
def headFieldsCard : Claim7 := { stood := { row := headFieldsRow, standIns := [], harness := (true, "dc40a5ac5849acf4f96dfe2cecf95e4e4dd8fdbf1b9e08b90df64219e6dabdb8"), looks := false }, kinds := [], alts := [], laidByText := true, laidKinds := [.data, .pinned], laidTests := true, laidLooks := .later }
def HeadFieldsCardSaid : Prop := Claim7.holds Tryd.pinned (.plain (OpenSpec.ofChange headFieldsSpec)) headFieldsCard

/-- THE TIED CARD OF 'tolllaw18.HeadMethods'. -/
def headMethodsCard : Claim7 := { stood := { row := headMethodsRow, standIns := [], harness := (true, "dc40a5ac5849acf4f96dfe2cecf95e4e4dd8fdbf1b9e08b90df64219e6dabdb8"), looks := false }, kinds := [], alts := [], laidByText := true, laidKinds := [.data, .pinned], laidTests := true, laidLooks := .later }
def HeadMethodsCardSaid : Prop := Claim7.holds Tryd.pinned (.plain (OpenSpec.ofChange headMethodsSpec)) headMethodsCard

/-- THE SECOND FORM's CARD OF 'tolllaw18.HeadCuts'. -/
def headCutsUptoCard : Claim7 := { stood := { row := headCutsUptoRow, standIns := [], harness := (true, "dc40a5ac5849acf4f96dfe2cecf95e4e4dd8fdbf1b9e08b90df64219e6dabdb8"), looks := false }, kinds := [], alts := [], laidByText := true, laidKinds := [.data, .pinned], laidTests := true, laidLooks := .later }
def HeadCutsUptoCardSaid : Prop := Claim7.holds Tryd.pinned (.plain (OpenSpec.upto headCutsSpec)) headCutsUptoCard

/-- THE SECOND FORM's CARD OF 'tolllaw18.HeadSizes'. -/
def headSizesUptoCard : Claim7 := { stood := { row := headSizesUptoRow, standIns := [], harness := (true, "dc40a5ac5849acf4f96dfe2cecf95e4e4dd8fdbf1b9e08b90df64219e6dabdb8"), looks := false }, kinds := [], alts := [], laidByText := true, laidKinds := [.data, .pinned], laidTests := true, laidLooks := .later }
def HeadSizesUptoCardSaid : Prop := Claim7.holds Tryd.pinned (.plain (OpenSpec.upto headSizesSpec)) headSizesUptoCard

/-- THE SECOND FORM's CARD OF 'tolllaw18.HeadAgain'. -/
def headAgainUptoCard : Claim7 := { stood := { row := headAgainUptoRow, standIns := [], harness := (true, "dc40a5ac5849acf4f96dfe2cecf95e4e4dd8fdbf1b9e08b90df64219e6dabdb8"), looks := false }, kinds := [], alts := [], laidByText := true, laidKinds := [.data, .pinned], laidTests := true, laidLooks := .later }
def HeadAgainUptoCardSaid : Prop := Claim7.holds Tryd.pinned (.plain (OpenSpec.upto headAgainSpec)) headAgainUptoCard

/-- THE SECOND FORM's CARD OF 'tolllaw18.HeadFields'. -/
def headFieldsUptoCard : Claim7 := { stood := { row := headFieldsUptoRow, standIns := [], harness := (true, "dc40a5ac5849acf4f96dfe2cecf95e4e4dd8fdbf1b9e08b90df64219e6dabdb8"), looks := false }, kinds := [], alts := [], laidByText := true, laidKinds := [.data, .pinned], laidTests := true, laidLooks := .later }
def HeadFieldsUptoCardSaid : Prop := Claim7.holds Tryd.pinned (.plain (OpenSpec.upto headFieldsSpec)) headFieldsUptoCard

/-- THE SECOND FORM's CARD OF 'tolllaw18.HeadMethods'. -/
def headMethodsUptoCard : Claim7 := { stood := { row := headMethodsUptoRow, standIns := [], harness := (true, "dc40a5ac5849acf4f96dfe2cecf95e4e4dd8fdbf1b9e08b90df64219e6dabdb8"), looks := false }, kinds := [], alts := [], laidByText := true, laidKinds := [.data, .pinned], laidTests := true, laidLooks := .later }
def HeadMethodsUptoCardSaid : Prop := Claim7.holds Tryd.pinned (.plain (OpenSpec.upto headMethodsSpec)) headMethodsUptoCard
end Rows
end Go.Proofs.YtpmllmfamjpinaaDoor
