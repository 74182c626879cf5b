-- the kit's print wrote these words; wip/tool/shakew.py left out what this seat does not use
import Derived.SizedLaws
import Derived.ChangeSlices
namespace Go.Proofs.YtfdopmjgiakcdaaGreatDoorW.PrintWords
open Go.ChangeShapes Go.WideShapes
end Go.Proofs.YtfdopmjgiakcdaaGreatDoorW.PrintWords
