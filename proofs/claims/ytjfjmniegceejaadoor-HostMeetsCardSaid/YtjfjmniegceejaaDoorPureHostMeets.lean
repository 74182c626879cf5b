/- The pure statement of HostMeets; no condition beyond the statement's. -/
import Derived.Test.YtjfjmniegceejaaDoorPx0
import Derived.Test.YtjfjmniegceejaaDoorPx15
import Derived.Test.YtjfjmniegceejaaDoorLHostMeet
namespace Go.Proofs.YtjfjmniegceejaaDoor.Pure
open Go Go.RowKit Go.Proofs.YtjfjmniegceejaaDoor.P Go.Proofs.YtjfjmniegceejaaDoor.L Go.Proofs.YtjfjmniegceejaaDoorW.PrintWords Go.Proofs.YtjfjmniegceejaaDoorW.PrintLast
theorem HostMeets : tolllaw02_HostMeets.Pure := by
  intro a0 b0 s0 _ _ _
  refine ⟨9000, ?_⟩
  have ha := few_len a0
  have hb := few_len b0
  have hs := few_len s0
  unfold tolllaw02_HostMeets.f
  rw [few_eq, Option.bind_some, few_eq, Option.bind_some, few_eq, Option.bind_some]
  generalize few a0 = a at *
  generalize few b0 = b at *
  generalize few s0 = s at *
  obtain ⟨x, x1, x2, _⟩ := meet_h a b (by omega) (by omega) 9000 (by decide)
  obtain ⟨y, y1, y2⟩ := meet_r a b (by omega) (by omega) 9000 (by decide)
  obtain ⟨h, h1, h2⟩ := of_h s hs 9000 (by decide)
  obtain ⟨o, o1, o2⟩ := of_r s hs 9000 (by decide)
  have he : (ofH (os s)).2 = 0 ∨ (ofH (os s)).2 = 2 := by unfold ofH; split; exact .inl rfl; exact .inr rfl
  rw [x1, Option.bind_some, y1, Option.bind_some, h1, Option.bind_some, o1, Option.bind_some, toList_os, toList_os, if_pos (by rw [x2, y2]), if_pos (beq_self_eq_true _), order_h a b (by omega) (by omega) _ (by decide), Option.bind_some, order_r a b (by omega) (by omega) _ (by decide), Option.bind_some, if_pos rfl, toList_os, toList_os, if_pos (by rw [h2, o2])]
  dsimp only
  rcases he with e | e
  · rw [e, if_pos (by decide), if_pos (by decide), host_awake _ (by decide)]; rfl
  · rw [e, if_pos (by decide), if_neg (by decide), if_pos rfl, host_awake _ (by decide)]; rfl
end Go.Proofs.YtjfjmniegceejaaDoor.Pure
