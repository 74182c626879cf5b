-- the kit's print wrote these words; wip/tool/shakew.py left out what this seat does not use
import Derived.Test.YtfdopmjgiakcdaaDoorWInv
import Derived.Test.YtfdopmjgiakcdaaDoorWFootNe
namespace Go.Proofs.YtfdopmjgiakcdaaDoorW.PrintWords
open Go.RowKit
end Go.Proofs.YtfdopmjgiakcdaaDoorW.PrintWords
namespace Go.Proofs.YtfdopmjgiakcdaaDoorW.PrintLast
section
variable {ops : Array Oper} {a : Act} {o og : Oper} {g : Nat} {t : Tmp} {u : Bool}
theorem eval_of {v : Value} (h : a.tmps[t]? = some v) : a.eval (.tmp t) = v := by simp [Act.eval, h]
end
end Go.Proofs.YtfdopmjgiakcdaaDoorW.PrintLast
