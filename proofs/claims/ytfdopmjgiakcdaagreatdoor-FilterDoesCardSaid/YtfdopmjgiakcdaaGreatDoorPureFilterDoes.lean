/- FilterDoes: what filters make of a request, and where one is sent, is the reference's; no condition beyond the statement's. -/
import Derived.Test.YtfdopmjgiakcdaaGreatDoorKFilterDoes
import Derived.Test.YtfdopmjgiakcdaaGreatDoorPx0
import Derived.Test.YtfdopmjgiakcdaaGreatDoorPx24
namespace Go.Proofs.YtfdopmjgiakcdaaGreatDoor.Pure
open Go Go.RowKit Go.Proofs.YtfdopmjgiakcdaaGreatDoor.P Go.Proofs.YtfdopmjgiakcdaaGreatDoor.L Go.Proofs.YtfdopmjgiakcdaaGreatDoorW.PrintWords Go.Proofs.YtfdopmjgiakcdaaGreatDoorW.PrintLast
theorem FilterDoes : tolllaw07_FilterDoes.Pure := by
  intro l0 b0 b1 c0 c1 c2 l3 l4 tls _
  refine ⟨70000, ?_⟩
  unfold tolllaw07_FilterDoes.f
  rw [cut_p _ _ _ _ _ _ _ _ _ _ (by omega), Option.bind_some]
  have hL := fewF_small l0
  have hv := few_len b1
  have hm := few_len c0
  have hh := few_len c1
  have hp := few_len c2
  have hq := fewL_small l3
  have hd := fewL_small l4
  dsimp only
  generalize fewF l0 = L at *
  generalize few b1 = pv at *
  generalize few c0 = m at *
  generalize few c1 = h at *
  generalize few c2 = p at *
  generalize fewL l3 = q at *
  generalize fewL l4 = hd0 at *
  rw [asked_p _ _ _ _ _ _ (by omega), few_id hm, few_id hh, few_id hp, fewL_id hq, fewL_id hd, Option.bind_some, do_p L b0 pv m h p q hd0 hL.2 (by have := hL.1; omega) hv hp (by omega) hd _ (by omega), Option.bind_some, doR_p L hL.2 hL.1 b0 pv m h p q hd0 hv hp hd _ (by omega), Option.bind_some, away_p L hL.2 (by have := hL.1; omega) b0 pv m h p q hd0 tls hv hh hp _ (by omega), Option.bind_some, awayR_p L hL.2 hL.1 b0 pv m h p q hd0 tls hv hh hp _ (by omega), Option.bind_some]
  have hsz : (doP L b0 pv m h p q hd0).2.2.2.1.length ≤ 1000 ∧ (doP L b0 pv m h p q hd0).2.2.2.2.1.length ≤ 1000 := by
    rcases doP_two L b0 pv m h p q hd0 with ⟨e, he, h1⟩ | ⟨ha, hh, h1, h0⟩
    · rw [h1]; exact ⟨Nat.zero_le _, Nat.zero_le _⟩
    · obtain ⟨e1, e2, e3, e4⟩ := goD_ok b0 pv m q L (h, p, hd0) h0
      rw [h1, e2, e3]
      exact ⟨by have := hq.1; omega, by have : (headF L hd0).length ≤ 30 := e4; show (headF L hd0).length ≤ 1000; omega⟩
  dsimp only
  rw [same_ask _ _ _ _ _ hsz.1 hsz.2 _ (by omega), Option.bind_some, if_pos rfl, if_pos rfl, if_pos (by simp), if_pos rfl, same_ask _ _ _ _ _ (by have := hq.1; omega) (by have := hd.1; omega) _ (by omega), Option.bind_some, if_pos rfl, filter_awake _ (by omega), Option.bind_some]
end Go.Proofs.YtfdopmjgiakcdaaGreatDoor.Pure
