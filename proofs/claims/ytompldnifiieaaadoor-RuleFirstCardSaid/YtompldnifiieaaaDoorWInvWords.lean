-- the kit's print wrote these words; wip/tool/shakew.py left out what this seat does not use
import Derived.Test.YtompldnifiieaaaDoorWInv
import Derived.Test.YtompldnifiieaaaDoorWFootNe
namespace Go.Proofs.YtompldnifiieaaaDoorW.PrintWords
open Go.RowKit
end Go.Proofs.YtompldnifiieaaaDoorW.PrintWords
namespace Go.Proofs.YtompldnifiieaaaDoorW.PrintLast
section
variable {ops : Array Oper} {a : Act} {o og : Oper} {g : Nat} {t : Tmp} {u : Bool}
theorem eval_of {v : Value} (h : a.tmps[t]? = some v) : a.eval (.tmp t) = v := by simp [Act.eval, h]
end
end Go.Proofs.YtompldnifiieaaaDoorW.PrintLast
