-- the kit's print wrote these words; wip/tool/shakew.py left out what this seat does not use
import Derived.Test.YtfdopmjgiakcdaaGreatDoorWInv
import Derived.Test.YtfdopmjgiakcdaaGreatDoorWFootNe
namespace Go.Proofs.YtfdopmjgiakcdaaGreatDoorW.PrintWords
open Go.RowKit
end Go.Proofs.YtfdopmjgiakcdaaGreatDoorW.PrintWords
namespace Go.Proofs.YtfdopmjgiakcdaaGreatDoorW.PrintLast
section
variable {ops : Array Oper} {a : Act} {o og : Oper} {g : Nat} {t : Tmp} {u : Bool}
theorem eval_of {v : Value} (h : a.tmps[t]? = some v) : a.eval (.tmp t) = v := by simp [Act.eval, h]
end
end Go.Proofs.YtfdopmjgiakcdaaGreatDoorW.PrintLast
