/- The pure statement of PairsHolds: pairs.Holds answers as the reference; no condition beyond the statement's. -/
import Derived.Test.YtnldeohdojemlaaPx0
import Derived.Test.YtnldeohdojemlaaPx7
import Derived.Test.YtnldeohdojemlaaLHolds
namespace Go.Proofs.Ytnldeohdojemlaa.Pure
open Go Go.RowKit Go.Proofs.Ytnldeohdojemlaa.P Go.Proofs.Ytnldeohdojemlaa.L Go.Proofs.YtnldeohdojemlaaW.PrintWords Go.Proofs.YtnldeohdojemlaaW.PrintLast
theorem PairsHolds : tolllaw05_PairsHolds.Pure := by
  intro a0 l0 fold _ _
  refine ⟨3000, ?_⟩
  have ha := fewL_small a0
  have hl := fewL_small l0
  unfold tolllaw05_PairsHolds.f
  rw [fewL_eq _ _ (by decide), Option.bind_some, fewL_eq _ _ (by decide), Option.bind_some, holds_p fold ha hl, Option.bind_some, holds_r fold ha hl _ (by decide), Option.bind_some, if_pos (by simp), pairs_awake _ (by decide)]
  rfl
end Go.Proofs.Ytnldeohdojemlaa.Pure
