/-
  DERIVED. GIVEN WITH THE SEED: THE CARDS: each row of YtjfjmniegceejaaDoorRows.lean that lists a variable, with what it lists TIED to the program's text (the seventh form; the later family's looks); each row that meets fmt, with fmt's text TOLD by the authors' own Lean function (tested against real Go, not proved from fmt's source: count such statements apart). THE CARD IS WHAT COUNTS. Prove the row's statement (the work); the ties are given (YtjfjmniegceejaaDoorTie.lean); close each card by the builder's one call (the guide's Derived/Test/ToyasCard.lean, 'card_holds'). Laid BY PROGRAM, IN A SANDBOX (cutbox-door.mjs). By AI agents, Wed Nov 11 2026. No macro, syntax, notation, axiom, sorry.
-/
import Derived.Test.YtjfjmniegceejaaDoorRows
import GoSem.ClaimSeven
namespace Go.Proofs.YtjfjmniegceejaaDoor
namespace Rows

/-- THE TIED CARD OF 'tolllaw02.HostHolds'. -/
def hostHoldsCard : Claim7 := { stood := { row := hostHoldsRow, standIns := [], harness := (true, "45c47fa60f3ee29c87a57d4b6acd244555c89cefb6a77083a3cf172841e16d7b"), looks := false }, kinds := [], alts := [], laidByText := true, laidKinds := [.data, .pinned], laidTests := true, laidLooks := .later }
def HostHoldsCardSaid : Prop := Claim7.holds Tryd.pinned (.plain (OpenSpec.ofChange hostHoldsSpec)) hostHoldsCard

/-- THE TIED CARD OF 'tolllaw02.HostJust'. -/
def hostJustCard : Claim7 := { stood := { row := hostJustRow, standIns := [], harness := (true, "45c47fa60f3ee29c87a57d4b6acd244555c89cefb6a77083a3cf172841e16d7b"), looks := false }, kinds := [], alts := [], laidByText := true, laidKinds := [.data, .pinned], laidTests := true, laidLooks := .later }
def HostJustCardSaid : Prop := Claim7.holds Tryd.pinned (.plain (OpenSpec.ofChange hostJustSpec)) hostJustCard

/-- THE TIED CARD OF 'tolllaw02.HostTurns'. -/
def hostTurnsCard : Claim7 := { stood := { row := hostTurnsRow, standIns := [], harness := (true, "45c47fa60f3ee29c87a57d4b6acd244555c89cefb6a77083a3cf172841e16d7b"), looks := false }, kinds := [], alts := [], laidByText := true, laidKinds := [.data, .pinned], laidTests := true, laidLooks := .later }
def HostTurnsCardSaid : Prop := Claim7.holds Tryd.pinned (.plain (OpenSpec.ofChange hostTurnsSpec)) hostTurnsCard

/-- THE TIED CARD OF 'tolllaw02.HostAsked'. -/
def hostAskedCard : Claim7 := { stood := { row := hostAskedRow, standIns := [], harness := (true, "45c47fa60f3ee29c87a57d4b6acd244555c89cefb6a77083a3cf172841e16d7b"), looks := false }, kinds := [], alts := [], laidByText := true, laidKinds := [.data, .pinned], laidTests := true, laidLooks := .later }
def HostAskedCardSaid : Prop := Claim7.holds Tryd.pinned (.plain (OpenSpec.ofChange hostAskedSpec)) hostAskedCard

/-- THE TIED CARD OF 'tolllaw02.HostMeets'. -/
def hostMeetsCard : Claim7 := { stood := { row := hostMeetsRow, standIns := [], harness := (true, "45c47fa60f3ee29c87a57d4b6acd244555c89cefb6a77083a3cf172841e16d7b"), looks := false }, kinds := [], alts := [], laidByText := true, laidKinds := [.data, .pinned], laidTests := true, laidLooks := .later }
def HostMeetsCardSaid : Prop := Claim7.holds Tryd.pinned (.plain (OpenSpec.ofChange hostMeetsSpec)) hostMeetsCard

/-- THE TIED CARD OF 'tolllaw02.HostOrders'. -/
def hostOrdersCard : Claim7 := { stood := { row := hostOrdersRow, standIns := [], harness := (true, "45c47fa60f3ee29c87a57d4b6acd244555c89cefb6a77083a3cf172841e16d7b"), looks := false }, kinds := [], alts := [], laidByText := true, laidKinds := [.data, .pinned], laidTests := true, laidLooks := .later }
def HostOrdersCardSaid : Prop := Claim7.holds Tryd.pinned (.plain (OpenSpec.ofChange hostOrdersSpec)) hostOrdersCard

/-- THE TIED CARD OF 'tolllaw02.HostBest'. -/
def hostBestCard : Claim7 := { stood := { row := hostBestRow, standIns := [], harness := (true, "45c47fa60f3ee29c87a57d4b6acd244555c89cefb6a77083a3cf172841e16d7b"), looks := false }, kinds := [], alts := [], laidByText := true, laidKinds := [.data, .pinned], laidTests := true, laidLooks := .later }
def HostBestCardSaid : Prop := Claim7.holds Tryd.pinned (.plain (OpenSpec.ofChange hostBestSpec)) hostBestCard

/-- THE TIED CARD OF 'tolllaw02.HostFirst'. -/
def hostFirstCard : Claim7 := { stood := { row := hostFirstRow, standIns := [], harness := (true, "45c47fa60f3ee29c87a57d4b6acd244555c89cefb6a77083a3cf172841e16d7b"), looks := false }, kinds := [], alts := [], laidByText := true, laidKinds := [.data, .pinned], laidTests := true, laidLooks := .later }
def HostFirstCardSaid : Prop := Claim7.holds Tryd.pinned (.plain (OpenSpec.ofChange hostFirstSpec)) hostFirstCard

/-- THE SECOND FORM's CARD OF 'tolllaw02.HostHolds'. -/
def hostHoldsUptoCard : Claim7 := { stood := { row := hostHoldsUptoRow, standIns := [], harness := (true, "45c47fa60f3ee29c87a57d4b6acd244555c89cefb6a77083a3cf172841e16d7b"), looks := false }, kinds := [], alts := [], laidByText := true, laidKinds := [.data, .pinned], laidTests := true, laidLooks := .later }
def HostHoldsUptoCardSaid : Prop := Claim7.holds Tryd.pinned (.plain (OpenSpec.upto hostHoldsSpec)) hostHoldsUptoCard

/-- THE SECOND FORM's CARD OF 'tolllaw02.HostJust'. -/
def hostJustUptoCard : Claim7 := { stood := { row := hostJustUptoRow, standIns := [], harness := (true, "45c47fa60f3ee29c87a57d4b6acd244555c89cefb6a77083a3cf172841e16d7b"), looks := false }, kinds := [], alts := [], laidByText := true, laidKinds := [.data, .pinned], laidTests := true, laidLooks := .later }
def HostJustUptoCardSaid : Prop := Claim7.holds Tryd.pinned (.plain (OpenSpec.upto hostJustSpec)) hostJustUptoCard

/-- THE SECOND FORM's CARD OF 'tolllaw02.HostTurns'. -/
def hostTurnsUptoCard : Claim7 := { stood := { row := hostTurnsUptoRow, standIns := [], harness := (true, "45c47fa60f3ee29c87a57d4b6acd244555c89cefb6a77083a3cf172841e16d7b"), looks := false }, kinds := [], alts := [], laidByText := true, laidKinds := [.data, .pinned], laidTests := true, laidLooks := .later }
def HostTurnsUptoCardSaid : Prop := Claim7.holds Tryd.pinned (.plain (OpenSpec.upto hostTurnsSpec)) hostTurnsUptoCard

/-- THE SECOND FORM's CARD OF 'tolllaw02.HostAsked'. -/
def hostAskedUptoCard : Claim7 := { stood := { row := hostAskedUptoRow, standIns := [], harness := (true, "45c47fa60f3ee29c87a57d4b6acd244555c89cefb6a77083a3cf172841e16d7b"), looks := false }, kinds := [], alts := [], laidByText := true, laidKinds := [.data, .pinned], laidTests := true, laidLooks := .later }
def HostAskedUptoCardSaid : Prop := Claim7.holds Tryd.pinned (.plain (OpenSpec.upto hostAskedSpec)) hostAskedUptoCard

/-- THE SECOND FORM's CARD OF 'tolllaw02.HostMeets'. -/
def hostMeetsUptoCard : Claim7 := { stood := { row := hostMeetsUptoRow, standIns := [], harness := (true, "45c47fa60f3ee29c87a57d4b6acd244555c89cefb6a77083a3cf172841e16d7b"), looks := false }, kinds := [], alts := [], laidByText := true, laidKinds := [.data, .pinned], laidTests := true, laidLooks := .later }
def HostMeetsUptoCardSaid : Prop := Claim7.holds Tryd.pinned (.plain (OpenSpec.upto hostMeetsSpec)) hostMeetsUptoCard

/-- THE SECOND FORM's CARD OF 'tolllaw02.HostOrders'. -/
def hostOrdersUptoCard : Claim7 := { stood := { row := hostOrdersUptoRow, standIns := [], harness := (true, "45c47fa60f3ee29c87a57d4b6acd244555c89cefb6a77083a3cf172841e16d7b"), looks := false }, kinds := [], alts := [], laidByText := true, laidKinds := [.data, .pinned], laidTests := true, laidLooks := .later }
def HostOrdersUptoCardSaid : Prop := Claim7.holds Tryd.pinned (.plain (OpenSpec.upto hostOrdersSpec)) hostOrdersUptoCard

/-- THE SECOND FORM's CARD OF 'tolllaw02.HostBest'. -/
def hostBestUptoCard : Claim7 := { stood := { row := hostBestUptoRow, standIns := [], harness := (true, "45c47fa60f3ee29c87a57d4b6acd244555c89cefb6a77083a3cf172841e16d7b"), looks := false }, kinds := [], alts := [], laidByText := true, laidKinds := [.data, .pinned], laidTests := true, laidLooks := .later }
def HostBestUptoCardSaid : Prop := Claim7.holds Tryd.pinned (.plain (OpenSpec.upto hostBestSpec)) hostBestUptoCard

/-- THE SECOND FORM's CARD OF 'tolllaw02.HostFirst'. -/
def hostFirstUptoCard : Claim7 := { stood := { row := hostFirstUptoRow, standIns := [], harness := (true, "45c47fa60f3ee29c87a57d4b6acd244555c89cefb6a77083a3cf172841e16d7b"), looks := false }, kinds := [], alts := [], laidByText := true, laidKinds := [.data, .pinned], laidTests := true, laidLooks := .later }
def HostFirstUptoCardSaid : Prop := Claim7.holds Tryd.pinned (.plain (OpenSpec.upto hostFirstSpec)) hostFirstUptoCard
end Rows
end Go.Proofs.YtjfjmniegceejaaDoor
