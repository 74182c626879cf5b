-- the kit's print wrote these words; wip/tool/shakew.py left out what this seat does not use
import Derived.Test.YtfdopmjgiakcdaaGreatDoorWN
namespace Go.Proofs.YtfdopmjgiakcdaaGreatDoorW.PrintWords
open Go.RowKit
namespace Kd
section
variable {α : Type} {d : Kd α} {W : World} {g n : Nat} {S ok : Nat → Prop} {A : Option Addr} {ad : Addr} {xs : List α}
end
end Kd
end Go.Proofs.YtfdopmjgiakcdaaGreatDoorW.PrintWords
