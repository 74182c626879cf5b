-- the kit's print wrote these words; wip/tool/shakew.py left out what this seat does not use
import Derived.Test.YtompldnifiieaaaDoorWWords
import Derived.Laws.StructEq
namespace Go.Proofs.YtompldnifiieaaaDoorW.PrintWords
open Go.RowKit
section
variable {P : Program} {d : Nat} {xs ys : Array Value} {f : Field} {fs : List Field} {a b : Value} {r s : Bool} {w : World}
end
end Go.Proofs.YtompldnifiieaaaDoorW.PrintWords
