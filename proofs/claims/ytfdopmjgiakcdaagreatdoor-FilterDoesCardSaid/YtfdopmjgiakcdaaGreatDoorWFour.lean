-- the kit's print wrote these words; wip/tool/shakew.py left out what this seat does not use
import Derived.Test.YtfdopmjgiakcdaaGreatDoorWTab
namespace Go.Proofs.YtfdopmjgiakcdaaGreatDoorW.PrintLast
section
variable {P : Program} {ops : Array Oper} {Q : Exit → Act → World → Prop} {md : Region.Mode} {S : World → Prop} {ds : List Nat} {T : Bool × List (List Nat × List Nat)}
end
end Go.Proofs.YtfdopmjgiakcdaaGreatDoorW.PrintLast
