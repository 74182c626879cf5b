/- The pure statement of PairsSets: pairs.Set, Drop and Add answer as the reference; no condition beyond the statement's. -/
import Derived.Test.YtnldeohdojemlaaPx0
import Derived.Test.YtnldeohdojemlaaPx5
import Derived.Test.YtnldeohdojemlaaLHolds
namespace Go.Proofs.Ytnldeohdojemlaa.Pure
open Go Go.RowKit Go.Proofs.Ytnldeohdojemlaa.P Go.Proofs.Ytnldeohdojemlaa.L Go.Proofs.YtnldeohdojemlaaW.PrintWords Go.Proofs.YtnldeohdojemlaaW.PrintLast
theorem PairsSets : tolllaw05_PairsSets.Pure := by
  intro l0 n0 v0 _ _ _
  refine ⟨3000, ?_⟩
  have hl := fewL_small l0
  have hn := few_len n0
  have hv := few_len v0
  have h1 := hl.1
  have hs := setL_small hn hv hl
  unfold tolllaw05_PairsSets.f
  rw [fewL_eq _ _ (by decide), Option.bind_some, few_eq, Option.bind_some, few_eq, Option.bind_some, fewL_eq _ _ (by decide), Option.bind_some, fewL_id hl]
  generalize fewL l0 = l at *
  generalize few n0 = n at *
  generalize few v0 = v at *
  rw [set_p hn v hl (by decide), Option.bind_some, set_r hn v (hl.mono (by decide)) _ (by decide), Option.bind_some, same4 _ _ (by have := hs.1; omega) (by decide), Option.bind_some, if_pos rfl]
  rw [drop_p hn hl (by decide), Option.bind_some, drop_r hn (hl.mono (by decide)) _ (by decide), Option.bind_some, same4 _ _ (by have := (hl.filter fun x => !eqN x.f0 n).1; omega) (by decide), Option.bind_some, if_pos rfl]
  rw [add_p n v hl (by decide), Option.bind_some, Option.bind_some, if_pos (by omega), same4 _ _ (by rw [List.length_append, List.length_singleton]; omega) (by decide), Option.bind_some, if_pos rfl]
  rw [same4 _ _ (by omega) (by decide), Option.bind_some, if_pos rfl, pairs_awake _ (by decide)]
  rfl
end Go.Proofs.Ytnldeohdojemlaa.Pure
