/- The pure statement of HostHolds; no condition beyond the statement's. -/
import Derived.Test.YtjfjmniegceejaaDoorPx0
import Derived.Test.YtjfjmniegceejaaDoorPx8
import Derived.Test.YtjfjmniegceejaaDoorLHostRef
namespace Go.Proofs.YtjfjmniegceejaaDoor.Pure
open Go Go.RowKit Go.Proofs.YtjfjmniegceejaaDoor.P Go.Proofs.YtjfjmniegceejaaDoor.L Go.Proofs.YtjfjmniegceejaaDoorW.PrintWords Go.Proofs.YtjfjmniegceejaaDoorW.PrintLast
theorem HostHolds : tolllaw02_HostHolds.Pure := by
  intro p0 h0 _ _
  refine ⟨9000, ?_⟩
  have hp := few_len p0
  have hh := few_len h0
  unfold tolllaw02_HostHolds.f
  rw [few_eq, Option.bind_some, few_eq, Option.bind_some, may_h, Option.bind_some, may_r _ (by omega) _ (by decide), Option.bind_some, if_pos (beq_self_eq_true _), holds_h _ _ (by omega) (by omega) _ (by decide), Option.bind_some, holds_r _ _ (by omega) (by omega) _ (by decide), Option.bind_some, if_pos (beq_self_eq_true _), host_awake _ (by decide)]; rfl
end Go.Proofs.YtjfjmniegceejaaDoor.Pure
