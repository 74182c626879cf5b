-- the kit's print wrote these words; wip/tool/shakew.py left out what this seat does not use
import Derived.Test.YtpmllmfamjpinaaGreatDoorWInv
import Derived.Test.YtpmllmfamjpinaaGreatDoorWFootNe
namespace Go.Proofs.YtpmllmfamjpinaaGreatDoorW.PrintWords
open Go.RowKit
end Go.Proofs.YtpmllmfamjpinaaGreatDoorW.PrintWords
namespace Go.Proofs.YtpmllmfamjpinaaGreatDoorW.PrintLast
section
variable {ops : Array Oper} {a : Act} {o og : Oper} {g : Nat} {t : Tmp} {u : Bool}
theorem eval_of {v : Value} (h : a.tmps[t]? = some v) : a.eval (.tmp t) = v := by simp [Act.eval, h]
end
end Go.Proofs.YtpmllmfamjpinaaGreatDoorW.PrintLast
