/- The pure statement of RuleOwn; no condition beyond the statement's. -/
import Derived.Test.YtompldnifiieaaaDoorKRuleOwn
import Derived.Test.YtompldnifiieaaaDoorPx0
import Derived.Test.YtompldnifiieaaaDoorPx22
namespace Go.Proofs.YtompldnifiieaaaDoor.Pure
open Go Go.RowKit Go.Proofs.YtompldnifiieaaaDoor.P Go.Proofs.YtompldnifiieaaaDoor.L Go.Proofs.YtompldnifiieaaaDoorW.PrintWords Go.Proofs.YtompldnifiieaaaDoorW.PrintLast
theorem RuleOwn : tolllaw06_RuleOwn.Pure := by
  intro k0 p0 m0 h0 q0 _
  refine ⟨9000, ?_⟩
  unfold tolllaw06_RuleOwn.f
  rw [fewM_eq _ _ _ _ _ _ (by decide), Option.bind_some]
  dsimp only
  rw [hold_p _ _ _ _ _ (few_len _) (fewL_small _) (fewL_small _) _ _ _ _ _ (fewL_small _) (fewL_small _) _ (by decide), Option.bind_some, may_p _ _ _ _ _ (few_len _) (fewL_small _) (fewL_small _) _ (by decide), Option.bind_some, own_holds, if_pos (beq_self_eq_true _), rule_awake]; rfl
end Go.Proofs.YtompldnifiieaaaDoor.Pure
