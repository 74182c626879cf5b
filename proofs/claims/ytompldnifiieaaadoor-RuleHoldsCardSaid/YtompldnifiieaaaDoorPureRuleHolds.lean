/- The pure statement of RuleHolds; no condition beyond the statement's. -/
import Derived.Test.YtompldnifiieaaaDoorKRuleHolds
import Derived.Test.YtompldnifiieaaaDoorPx0
import Derived.Test.YtompldnifiieaaaDoorPx15
namespace Go.Proofs.YtompldnifiieaaaDoor.Pure
open Go Go.RowKit Go.Proofs.YtompldnifiieaaaDoor.P Go.Proofs.YtompldnifiieaaaDoor.L Go.Proofs.YtompldnifiieaaaDoorW.PrintWords Go.Proofs.YtompldnifiieaaaDoorW.PrintLast
theorem RuleHolds : tolllaw06_RuleHolds.Pure := by
  intro k0 p0 m0 h0 q0 rm0 rho0 rp0 rq0 rh0 s0 _ _ _
  refine ⟨9000, ?_⟩
  have hs := few_len s0
  unfold tolllaw06_RuleHolds.f
  rw [fewM_eq _ _ _ _ _ _ (by decide), Option.bind_some, asked_eq _ _ _ _ _ _ (by decide), Option.bind_some, few_eq, Option.bind_some]
  dsimp only
  rw [may_p _ _ _ _ _ (few_len _) (fewL_small _) (fewL_small _) _ (by decide), Option.bind_some, may_r _ _ _ _ _ (few_len _) (few_len _) (fewL_small _) (fewL_small _) _ (by decide), Option.bind_some, if_pos (beq_self_eq_true _),
    hold_p _ _ _ _ _ (few_len _) (fewL_small _) (fewL_small _) _ _ _ _ _ (fewL_small _) (fewL_small _) _ (by decide), Option.bind_some, hold_r _ _ _ _ _ (few_len _) (few_len _) (fewL_small _) (fewL_small _) _ _ _ _ _ (few_len _) (fewL_small _) (fewL_small _) _ (by decide), Option.bind_some, if_pos (beq_self_eq_true _),
    meth_p, Option.bind_some, meth_r _ (by omega) _ (by decide), Option.bind_some, if_pos (beq_self_eq_true _), rule_awake]; rfl
end Go.Proofs.YtompldnifiieaaaDoor.Pure
