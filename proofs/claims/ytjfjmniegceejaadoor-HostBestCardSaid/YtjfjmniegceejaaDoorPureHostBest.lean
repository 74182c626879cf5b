/- The pure statement of HostBest; no condition beyond the statement's. -/
import Derived.Test.YtjfjmniegceejaaDoorPx0
import Derived.Test.YtjfjmniegceejaaDoorPx19
import Derived.Test.YtjfjmniegceejaaDoorLHostRef2
namespace Go.Proofs.YtjfjmniegceejaaDoor.Pure
open Go Go.RowKit Go.Proofs.YtjfjmniegceejaaDoor.P Go.Proofs.YtjfjmniegceejaaDoor.L Go.Proofs.YtjfjmniegceejaaDoorW.PrintWords Go.Proofs.YtjfjmniegceejaaDoorW.PrintLast
theorem HostBest : tolllaw02_HostBest.Pure := by
  intro l0 h0 _ _
  refine ⟨9000, ?_⟩
  have hl := fewB_small l0
  have hh := few_len h0
  unfold tolllaw02_HostBest.f
  rw [fewB_eq _ _ (by decide), Option.bind_some, few_eq, Option.bind_some]
  generalize fewB l0 = l at *
  generalize few h0 = h at *
  have hl1 := hl.1
  obtain ⟨o, b1, e1⟩ := best_p l ⟨by omega, hl.2⟩ h hh 9000 (by decide)
  rw [e1, Option.bind_some, best_r hl hh b1 _ (by decide), Option.bind_some, if_pos rfl, if_pos (beq_self_eq_true _), host_awake _ (by decide)]; rfl
end Go.Proofs.YtjfjmniegceejaaDoor.Pure
