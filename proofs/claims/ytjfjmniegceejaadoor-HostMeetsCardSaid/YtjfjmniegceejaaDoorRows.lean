/-
  NARROWER THAN 'FOR EVERY INPUT', by the rows' own cells (each row's printed sentence says how): HostHolds: laid · HostJust: laid · HostTurns: laid · HostAsked: laid · HostMeets: laid · HostOrders: laid · HostBest: laid · HostFirst: laid.
  DERIVED. THE GIVEN ROWS OF THIS SEAT. 8 by the template 'for every input the law returns true; each argument reads behind the call as it read before'; 0 by the template 'total and deterministic' (their statements: YtjfjmniegceejaaDoorTotals.lean).
  GIVEN WITH THE SEED: the statements are not yours to turn. If you find one false, say at which input.
  Laid BY PROGRAM, IN A SANDBOX (cutbox-rows.mjs): the forced cells as the released guide's own fill.sh prints them over the translation e15ba333e2c1d794… (all of the seat's roots in one cut). By AI agents, Wed Nov 11 2026. No macro, syntax, notation, axiom, sorry.
-/
import Derived.Test.YtjfjmniegceejaaDoorChecked
import GoSem.PinnedTables
import GoSem.Claim
import GoSem.ClaimJoined
import GoSem.ClaimMapViews
import Derived.JoinedTies
import Derived.KernelRfl
namespace Go.Proofs.YtjfjmniegceejaaDoor
/- THE CELL 'sum', in the pinned program and in every row, IS THE sha256 OF THE DUMP (.gsa) THAT YtjfjmniegceejaaDoorProg.lean LOADS. Nothing in Lean hashes anything: it is a label: what it is worth is what the hold of that sum in a sandbox is worth. -/
noncomputable def Tryd.pinned : Pinned := { name := "ytjfjmniegceejaadoor", sum := "e15ba333e2c1d794497b1aa791f04a25f94dc1aad0425fed31a1017ac1687f4c", checked := Tryd.checked }
namespace Rows
def none {H : Type} : Left H := { results := [], args := [] }

/- WHAT THE LISTED PACKAGE-LEVEL VARIABLES READ AS WHEN THE CALL BEGINS. Each datum BY PROGRAM (the guide's laid-datum.mjs) off the statement by which the dump's own 'gosem.cut.vars' lays the variable. In a bare row this is a premise. The card (YtjfjmniegceejaaDoorCards.lean) ties it to the program's text. -/
def laid_unicode_utf8_acceptRanges {H : Type} : DataW H := .agg [.agg [.lit (.int .u8 128), .lit (.int .u8 191)], .agg [.lit (.int .u8 160), .lit (.int .u8 191)], .agg [.lit (.int .u8 128), .lit (.int .u8 159)], .agg [.lit (.int .u8 144), .lit (.int .u8 191)], .agg [.lit (.int .u8 128), .lit (.int .u8 143)], .agg [.lit (.int .u8 0), .lit (.int .u8 0)], .agg [.lit (.int .u8 0), .lit (.int .u8 0)], .agg [.lit (.int .u8 0), .lit (.int .u8 0)], .agg [.lit (.int .u8 0), .lit (.int .u8 0)], .agg [.lit (.int .u8 0), .lit (.int .u8 0)], .agg [.lit (.int .u8 0), .lit (.int .u8 0)], .agg [.lit (.int .u8 0), .lit (.int .u8 0)], .agg [.lit (.int .u8 0), .lit (.int .u8 0)], .agg [.lit (.int .u8 0), .lit (.int .u8 0)], .agg [.lit (.int .u8 0), .lit (.int .u8 0)], .agg [.lit (.int .u8 0), .lit (.int .u8 0)]]
/-- One of Go's own tables, pinned by name: the form's constant. -/
def laid_unicode_utf8_first : DataW Unit := Go.Pinned.utf8First

/-- 'tolllaw02.HostHolds': WHATEVER THE INPUT: true; the input reads as it did. -/
def hostHoldsSpec : ChangeSpec := { name := "hostHolds", fn := fun _ => fun
  | [d1, d2] => { results := [.lit (.bool true)], args := [d1, d2] }
  | _ => none }
def hostHoldsRow : OpenClaim := { program := "ytjfjmniegceejaadoor", sum := "e15ba333e2c1d794497b1aa791f04a25f94dc1aad0425fed31a1017ac1687f4c", func := "toll/tolllaw02.HostHolds", spec := "hostHolds", inPlace := ["internal/bytealg.IndexByteString", "internal/bytealg.IndexString"], unfollowed := true, recurses := true, named := ["unicode/utf8.first", "unicode/utf8.acceptRanges", "internal/bytealg.MaxLen"], apart := false, laid := [("unicode/utf8.acceptRanges", laid_unicode_utf8_acceptRanges), ("unicode/utf8.first", laid_unicode_utf8_first)] }
def HostHoldsSaid : Prop := hostHoldsRow.holds Tryd.pinned (OpenSpec.ofChange hostHoldsSpec)

/-- ITS FALSE NEIGHBOUR: 'it returns false'. Refute it at one input. -/
def hostHoldsWrong : ChangeSpec := { name := "hostHolds", fn := fun _ => fun
  | [d1, d2] => { results := [.lit (.bool false)], args := [d1, d2] }
  | _ => none }
def HostHoldsWrongFalsely : Prop := hostHoldsRow.holds Tryd.pinned (OpenSpec.ofChange hostHoldsWrong)

/-- 'tolllaw02.HostJust': WHATEVER THE INPUT: true; the input reads as it did. -/
def hostJustSpec : ChangeSpec := { name := "hostJust", fn := fun _ => fun
  | [d1, d2, d3] => { results := [.lit (.bool true)], args := [d1, d2, d3] }
  | _ => none }
def hostJustRow : OpenClaim := { program := "ytjfjmniegceejaadoor", sum := "e15ba333e2c1d794497b1aa791f04a25f94dc1aad0425fed31a1017ac1687f4c", func := "toll/tolllaw02.HostJust", spec := "hostJust", inPlace := ["internal/bytealg.IndexByteString", "internal/bytealg.IndexString"], unfollowed := true, recurses := true, named := ["unicode/utf8.first", "unicode/utf8.acceptRanges", "internal/bytealg.MaxLen"], apart := false, laid := [("unicode/utf8.acceptRanges", laid_unicode_utf8_acceptRanges), ("unicode/utf8.first", laid_unicode_utf8_first)] }
def HostJustSaid : Prop := hostJustRow.holds Tryd.pinned (OpenSpec.ofChange hostJustSpec)

/-- ITS FALSE NEIGHBOUR: 'it returns false'. Refute it at one input. -/
def hostJustWrong : ChangeSpec := { name := "hostJust", fn := fun _ => fun
  | [d1, d2, d3] => { results := [.lit (.bool false)], args := [d1, d2, d3] }
  | _ => none }
def HostJustWrongFalsely : Prop := hostJustRow.holds Tryd.pinned (OpenSpec.ofChange hostJustWrong)

/-- 'tolllaw02.HostTurns': WHATEVER THE INPUT: true; the input reads as it did. -/
def hostTurnsSpec : ChangeSpec := { name := "hostTurns", fn := fun _ => fun
  | [d1, d2, d3] => { results := [.lit (.bool true)], args := [d1, d2, d3] }
  | _ => none }
def hostTurnsRow : OpenClaim := { program := "ytjfjmniegceejaadoor", sum := "e15ba333e2c1d794497b1aa791f04a25f94dc1aad0425fed31a1017ac1687f4c", func := "toll/tolllaw02.HostTurns", spec := "hostTurns", inPlace := ["internal/bytealg.IndexByteString", "internal/bytealg.IndexString"], unfollowed := true, recurses := true, named := ["unicode/utf8.first", "unicode/utf8.acceptRanges", "internal/bytealg.MaxLen"], apart := false, laid := [("unicode/utf8.acceptRanges", laid_unicode_utf8_acceptRanges), ("unicode/utf8.first", laid_unicode_utf8_first)] }
def HostTurnsSaid : Prop := hostTurnsRow.holds Tryd.pinned (OpenSpec.ofChange hostTurnsSpec)

/-- ITS FALSE NEIGHBOUR: 'it returns false'. Refute it at one input. -/
def hostTurnsWrong : ChangeSpec := { name := "hostTurns", fn := fun _ => fun
  | [d1, d2, d3] => { results := [.lit (.bool false)], args := [d1, d2, d3] }
  | _ => none }
def HostTurnsWrongFalsely : Prop := hostTurnsRow.holds Tryd.pinned (OpenSpec.ofChange hostTurnsWrong)

/-- 'tolllaw02.HostAsked': WHATEVER THE INPUT: true; the input reads as it did. -/
def hostAskedSpec : ChangeSpec := { name := "hostAsked", fn := fun _ => fun
  | [d1, d2, d3] => { results := [.lit (.bool true)], args := [d1, d2, d3] }
  | _ => none }
def hostAskedRow : OpenClaim := { program := "ytjfjmniegceejaadoor", sum := "e15ba333e2c1d794497b1aa791f04a25f94dc1aad0425fed31a1017ac1687f4c", func := "toll/tolllaw02.HostAsked", spec := "hostAsked", inPlace := ["internal/bytealg.IndexByteString", "internal/bytealg.IndexString"], unfollowed := true, recurses := true, named := ["unicode/utf8.first", "unicode/utf8.acceptRanges", "internal/bytealg.MaxLen"], apart := false, laid := [("unicode/utf8.acceptRanges", laid_unicode_utf8_acceptRanges), ("unicode/utf8.first", laid_unicode_utf8_first)] }
def HostAskedSaid : Prop := hostAskedRow.holds Tryd.pinned (OpenSpec.ofChange hostAskedSpec)

/-- ITS FALSE NEIGHBOUR: 'it returns false'. Refute it at one input. -/
def hostAskedWrong : ChangeSpec := { name := "hostAsked", fn := fun _ => fun
  | [d1, d2, d3] => { results := [.lit (.bool false)], args := [d1, d2, d3] }
  | _ => none }
def HostAskedWrongFalsely : Prop := hostAskedRow.holds Tryd.pinned (OpenSpec.ofChange hostAskedWrong)

/-- 'tolllaw02.HostMeets': WHATEVER THE INPUT: true; the input reads as it did. -/
def hostMeetsSpec : ChangeSpec := { name := "hostMeets", fn := fun _ => fun
  | [d1, d2, d3] => { results := [.lit (.bool true)], args := [d1, d2, d3] }
  | _ => none }
def hostMeetsRow : OpenClaim := { program := "ytjfjmniegceejaadoor", sum := "e15ba333e2c1d794497b1aa791f04a25f94dc1aad0425fed31a1017ac1687f4c", func := "toll/tolllaw02.HostMeets", spec := "hostMeets", inPlace := ["internal/bytealg.IndexByteString", "internal/bytealg.IndexString", "internal/bytealg.abigen_runtime_cmpstring"], unfollowed := true, recurses := true, named := ["unicode/utf8.first", "unicode/utf8.acceptRanges", "internal/bytealg.MaxLen"], apart := false, laid := [("unicode/utf8.acceptRanges", laid_unicode_utf8_acceptRanges), ("unicode/utf8.first", laid_unicode_utf8_first)] }
def HostMeetsSaid : Prop := hostMeetsRow.holds Tryd.pinned (OpenSpec.ofChange hostMeetsSpec)

/-- ITS FALSE NEIGHBOUR: 'it returns false'. Refute it at one input. -/
def hostMeetsWrong : ChangeSpec := { name := "hostMeets", fn := fun _ => fun
  | [d1, d2, d3] => { results := [.lit (.bool false)], args := [d1, d2, d3] }
  | _ => none }
def HostMeetsWrongFalsely : Prop := hostMeetsRow.holds Tryd.pinned (OpenSpec.ofChange hostMeetsWrong)

/-- 'tolllaw02.HostOrders': WHATEVER THE INPUT: true; the input reads as it did. -/
def hostOrdersSpec : ChangeSpec := { name := "hostOrders", fn := fun _ => fun
  | [d1, d2, d3] => { results := [.lit (.bool true)], args := [d1, d2, d3] }
  | _ => none }
def hostOrdersRow : OpenClaim := { program := "ytjfjmniegceejaadoor", sum := "e15ba333e2c1d794497b1aa791f04a25f94dc1aad0425fed31a1017ac1687f4c", func := "toll/tolllaw02.HostOrders", spec := "hostOrders", inPlace := ["internal/bytealg.abigen_runtime_cmpstring", "internal/bytealg.IndexByteString", "internal/bytealg.IndexString"], unfollowed := true, recurses := true, named := ["unicode/utf8.first", "unicode/utf8.acceptRanges", "internal/bytealg.MaxLen"], apart := false, laid := [("unicode/utf8.acceptRanges", laid_unicode_utf8_acceptRanges), ("unicode/utf8.first", laid_unicode_utf8_first)] }
def HostOrdersSaid : Prop := hostOrdersRow.holds Tryd.pinned (OpenSpec.ofChange hostOrdersSpec)

/-- ITS FALSE NEIGHBOUR: 'it returns false'. Refute it at one input. -/
def hostOrdersWrong : ChangeSpec := { name := "hostOrders", fn := fun _ => fun
  | [d1, d2, d3] => { results := [.lit (.bool false)], args := [d1, d2, d3] }
  | _ => none }
def HostOrdersWrongFalsely : Prop := hostOrdersRow.holds Tryd.pinned (OpenSpec.ofChange hostOrdersWrong)

/-- 'tolllaw02.HostBest': WHATEVER THE INPUT: true; the input reads as it did. -/
def hostBestSpec : ChangeSpec := { name := "hostBest", fn := fun _ => fun
  | [d1, d2] => { results := [.lit (.bool true)], args := [d1, d2] }
  | _ => none }
def hostBestRow : OpenClaim := { program := "ytjfjmniegceejaadoor", sum := "e15ba333e2c1d794497b1aa791f04a25f94dc1aad0425fed31a1017ac1687f4c", func := "toll/tolllaw02.HostBest", spec := "hostBest", inPlace := ["internal/bytealg.IndexByteString", "internal/bytealg.IndexString", "internal/bytealg.abigen_runtime_cmpstring"], unfollowed := true, recurses := true, named := ["unicode/utf8.first", "unicode/utf8.acceptRanges", "internal/bytealg.MaxLen"], apart := false, laid := [("unicode/utf8.acceptRanges", laid_unicode_utf8_acceptRanges), ("unicode/utf8.first", laid_unicode_utf8_first)] }
def HostBestSaid : Prop := hostBestRow.holds Tryd.pinned (OpenSpec.ofChange hostBestSpec)

/-- ITS FALSE NEIGHBOUR: 'it returns false'. Refute it at one input. -/
def hostBestWrong : ChangeSpec := { name := "hostBest", fn := fun _ => fun
  | [d1, d2] => { results := [.lit (.bool false)], args := [d1, d2] }
  | _ => none }
def HostBestWrongFalsely : Prop := hostBestRow.holds Tryd.pinned (OpenSpec.ofChange hostBestWrong)

/-- 'tolllaw02.HostFirst': WHATEVER THE INPUT: true; the input reads as it did. -/
def hostFirstSpec : ChangeSpec := { name := "hostFirst", fn := fun _ => fun
  | [d1, d2, d3] => { results := [.lit (.bool true)], args := [d1, d2, d3] }
  | _ => none }
def hostFirstRow : OpenClaim := { program := "ytjfjmniegceejaadoor", sum := "e15ba333e2c1d794497b1aa791f04a25f94dc1aad0425fed31a1017ac1687f4c", func := "toll/tolllaw02.HostFirst", spec := "hostFirst", inPlace := ["internal/bytealg.IndexByteString", "internal/bytealg.IndexString", "internal/bytealg.abigen_runtime_cmpstring"], unfollowed := true, recurses := true, named := ["unicode/utf8.first", "unicode/utf8.acceptRanges", "internal/bytealg.MaxLen"], apart := false, laid := [("unicode/utf8.acceptRanges", laid_unicode_utf8_acceptRanges), ("unicode/utf8.first", laid_unicode_utf8_first)] }
def HostFirstSaid : Prop := hostFirstRow.holds Tryd.pinned (OpenSpec.ofChange hostFirstSpec)

/-- ITS FALSE NEIGHBOUR: 'it returns false'. Refute it at one input. -/
def hostFirstWrong : ChangeSpec := { name := "hostFirst", fn := fun _ => fun
  | [d1, d2, d3] => { results := [.lit (.bool false)], args := [d1, d2, d3] }
  | _ => none }
def HostFirstWrongFalsely : Prop := hostFirstRow.holds Tryd.pinned (OpenSpec.ofChange hostFirstWrong)

/- THE SECOND FORM. 'bulk': how many values and letters a reading holds, each counted each time it is reached (what is shared counts as often as it is met; a slice's spare places count too). A statement '..UptoSaid' is the law's where the arguments, and the package variables that the reading takes, are together of bulk at most 1048576: NARROWER than '..Said'. Prove '..Said' where nothing that the law and all that it calls make is longer than what came in: it says more and counts as full. Else prove '..UptoSaid'. A law counts once. -/
mutual
def uptoBulk {H : Type} : DataW H → Nat
  | .lit (.string bytes) => bytes.length + 1
  | .lit _ => 1
  | .nil => 1
  | .ptr d => uptoBulk d + 1
  | .slice elems spare => uptoBulkAll elems + uptoBulkAll spare + 1
  | .agg parts => uptoBulkAll parts + 1
  | .iface _ d => uptoBulk d + 1
  | .map entries => uptoBulkEntries entries + 1
  | .held _ => 1
def uptoBulkAll {H : Type} : List (DataW H) → Nat
  | [] => 0
  | d :: r => uptoBulk d + uptoBulkAll r
def uptoBulkEntries {H : Type} : List (Lit × DataW H) → Nat
  | [] => 0
  | x :: r => uptoBulkEntry x + uptoBulkEntries r
def uptoBulkEntry {H : Type} : Lit × DataW H → Nat
  | (.string bytes, d) => bytes.length + uptoBulk d + 1
  | (_, d) => uptoBulk d + 1
 end
def uptoSmall : (H : Type) → List (DataW H) → Bool := fun _ ds => decide (uptoBulkAll ds ≤ 1048576)
def OpenSpec.upto (s : _root_.Go.ChangeSpec) : _root_.Go.OpenSpec := { _root_.Go.OpenSpec.ofChange s with cond := some uptoSmall }

/-- 'tolllaw02.HostHolds', WHERE WHAT IT READS IS OF BULK AT MOST 1048576: true; the input reads as it did. -/
def hostHoldsUptoRow : OpenClaim := { program := "ytjfjmniegceejaadoor", sum := "e15ba333e2c1d794497b1aa791f04a25f94dc1aad0425fed31a1017ac1687f4c", func := "toll/tolllaw02.HostHolds", spec := "hostHolds", inPlace := ["internal/bytealg.IndexByteString", "internal/bytealg.IndexString"], unfollowed := true, recurses := true, named := ["unicode/utf8.first", "unicode/utf8.acceptRanges", "internal/bytealg.MaxLen"], apart := false, laid := [("unicode/utf8.acceptRanges", laid_unicode_utf8_acceptRanges), ("unicode/utf8.first", laid_unicode_utf8_first)], narrowed := true }
def HostHoldsUptoSaid : Prop := hostHoldsUptoRow.holds Tryd.pinned (OpenSpec.upto hostHoldsSpec)

/-- 'tolllaw02.HostJust', WHERE WHAT IT READS IS OF BULK AT MOST 1048576: true; the input reads as it did. -/
def hostJustUptoRow : OpenClaim := { program := "ytjfjmniegceejaadoor", sum := "e15ba333e2c1d794497b1aa791f04a25f94dc1aad0425fed31a1017ac1687f4c", func := "toll/tolllaw02.HostJust", spec := "hostJust", inPlace := ["internal/bytealg.IndexByteString", "internal/bytealg.IndexString"], unfollowed := true, recurses := true, named := ["unicode/utf8.first", "unicode/utf8.acceptRanges", "internal/bytealg.MaxLen"], apart := false, laid := [("unicode/utf8.acceptRanges", laid_unicode_utf8_acceptRanges), ("unicode/utf8.first", laid_unicode_utf8_first)], narrowed := true }
def HostJustUptoSaid : Prop := hostJustUptoRow.holds Tryd.pinned (OpenSpec.upto hostJustSpec)

/-- 'tolllaw02.HostTurns', WHERE WHAT IT READS IS OF BULK AT MOST 1048576: true; the input reads as it did. -/
def hostTurnsUptoRow : OpenClaim := { program := "ytjfjmniegceejaadoor", sum := "e15ba333e2c1d794497b1aa791f04a25f94dc1aad0425fed31a1017ac1687f4c", func := "toll/tolllaw02.HostTurns", spec := "hostTurns", inPlace := ["internal/bytealg.IndexByteString", "internal/bytealg.IndexString"], unfollowed := true, recurses := true, named := ["unicode/utf8.first", "unicode/utf8.acceptRanges", "internal/bytealg.MaxLen"], apart := false, laid := [("unicode/utf8.acceptRanges", laid_unicode_utf8_acceptRanges), ("unicode/utf8.first", laid_unicode_utf8_first)], narrowed := true }
def HostTurnsUptoSaid : Prop := hostTurnsUptoRow.holds Tryd.pinned (OpenSpec.upto hostTurnsSpec)

/-- 'tolllaw02.HostAsked', WHERE WHAT IT READS IS OF BULK AT MOST 1048576: true; the input reads as it did. -/
def hostAskedUptoRow : OpenClaim := { program := "ytjfjmniegceejaadoor", sum := "e15ba333e2c1d794497b1aa791f04a25f94dc1aad0425fed31a1017ac1687f4c", func := "toll/tolllaw02.HostAsked", spec := "hostAsked", inPlace := ["internal/bytealg.IndexByteString", "internal/bytealg.IndexString"], unfollowed := true, recurses := true, named := ["unicode/utf8.first", "unicode/utf8.acceptRanges", "internal/bytealg.MaxLen"], apart := false, laid := [("unicode/utf8.acceptRanges", laid_unicode_utf8_acceptRanges), ("unicode/utf8.first", laid_unicode_utf8_first)], narrowed := true }
def HostAskedUptoSaid : Prop := hostAskedUptoRow.holds Tryd.pinned (OpenSpec.upto hostAskedSpec)

/-- 'tolllaw02.HostMeets', WHERE WHAT IT READS IS OF BULK AT MOST 1048576: true; the input reads as it did. -/
def hostMeetsUptoRow : OpenClaim := { program := "ytjfjmniegceejaadoor", sum := "e15ba333e2c1d794497b1aa791f04a25f94dc1aad0425fed31a1017ac1687f4c", func := "toll/tolllaw02.HostMeets", spec := "hostMeets", inPlace := ["internal/bytealg.IndexByteString", "internal/bytealg.IndexString", "internal/bytealg.abigen_runtime_cmpstring"], unfollowed := true, recurses := true, named := ["unicode/utf8.first", "unicode/utf8.acceptRanges", "internal/bytealg.MaxLen"], apart := false, laid := [("unicode/utf8.acceptRanges", laid_unicode_utf8_acceptRanges), ("unicode/utf8.first", laid_unicode_utf8_first)], narrowed := true }
def HostMeetsUptoSaid : Prop := hostMeetsUptoRow.holds Tryd.pinned (OpenSpec.upto hostMeetsSpec)

/-- 'tolllaw02.HostOrders', WHERE WHAT IT READS IS OF BULK AT MOST 1048576: true; the input reads as it did. -/
def hostOrdersUptoRow : OpenClaim := { program := "ytjfjmniegceejaadoor", sum := "e15ba333e2c1d794497b1aa791f04a25f94dc1aad0425fed31a1017ac1687f4c", func := "toll/tolllaw02.HostOrders", spec := "hostOrders", inPlace := ["internal/bytealg.abigen_runtime_cmpstring", "internal/bytealg.IndexByteString", "internal/bytealg.IndexString"], unfollowed := true, recurses := true, named := ["unicode/utf8.first", "unicode/utf8.acceptRanges", "internal/bytealg.MaxLen"], apart := false, laid := [("unicode/utf8.acceptRanges", laid_unicode_utf8_acceptRanges), ("unicode/utf8.first", laid_unicode_utf8_first)], narrowed := true }
def HostOrdersUptoSaid : Prop := hostOrdersUptoRow.holds Tryd.pinned (OpenSpec.upto hostOrdersSpec)

/-- 'tolllaw02.HostBest', WHERE WHAT IT READS IS OF BULK AT MOST 1048576: true; the input reads as it did. -/
def hostBestUptoRow : OpenClaim := { program := "ytjfjmniegceejaadoor", sum := "e15ba333e2c1d794497b1aa791f04a25f94dc1aad0425fed31a1017ac1687f4c", func := "toll/tolllaw02.HostBest", spec := "hostBest", inPlace := ["internal/bytealg.IndexByteString", "internal/bytealg.IndexString", "internal/bytealg.abigen_runtime_cmpstring"], unfollowed := true, recurses := true, named := ["unicode/utf8.first", "unicode/utf8.acceptRanges", "internal/bytealg.MaxLen"], apart := false, laid := [("unicode/utf8.acceptRanges", laid_unicode_utf8_acceptRanges), ("unicode/utf8.first", laid_unicode_utf8_first)], narrowed := true }
def HostBestUptoSaid : Prop := hostBestUptoRow.holds Tryd.pinned (OpenSpec.upto hostBestSpec)

/-- 'tolllaw02.HostFirst', WHERE WHAT IT READS IS OF BULK AT MOST 1048576: true; the input reads as it did. -/
def hostFirstUptoRow : OpenClaim := { program := "ytjfjmniegceejaadoor", sum := "e15ba333e2c1d794497b1aa791f04a25f94dc1aad0425fed31a1017ac1687f4c", func := "toll/tolllaw02.HostFirst", spec := "hostFirst", inPlace := ["internal/bytealg.IndexByteString", "internal/bytealg.IndexString", "internal/bytealg.abigen_runtime_cmpstring"], unfollowed := true, recurses := true, named := ["unicode/utf8.first", "unicode/utf8.acceptRanges", "internal/bytealg.MaxLen"], apart := false, laid := [("unicode/utf8.acceptRanges", laid_unicode_utf8_acceptRanges), ("unicode/utf8.first", laid_unicode_utf8_first)], narrowed := true }
def HostFirstUptoSaid : Prop := hostFirstUptoRow.holds Tryd.pinned (OpenSpec.upto hostFirstSpec)

end Rows
end Go.Proofs.YtjfjmniegceejaaDoor
