/- The pure statement of PairsAdds; no condition beyond the statement's. -/
import Derived.Test.YtnldeohdojemlaaPx0
import Derived.Test.YtnldeohdojemlaaPx9
import Derived.Test.YtnldeohdojemlaaLHolds
namespace Go.Proofs.Ytnldeohdojemlaa.Pure
open Go Go.RowKit Go.Proofs.Ytnldeohdojemlaa.P Go.Proofs.Ytnldeohdojemlaa.L Go.Proofs.YtnldeohdojemlaaW.PrintWords Go.Proofs.YtnldeohdojemlaaW.PrintLast
theorem PairsAdds : tolllaw05_PairsAdds.Pure := by
  intro l0 n0 v0 _ _ _
  refine ⟨3000, ?_⟩
  have hl := fewL_small l0
  have hn := few_len n0
  have hv := few_len v0
  have h1 := hl.1
  unfold tolllaw05_PairsAdds.f
  rw [fewL_eq _ _ (by decide), Option.bind_some, few_eq, Option.bind_some, few_eq, Option.bind_some]
  generalize fewL l0 = l at *
  generalize few n0 = n at *
  generalize few v0 = v at *
  have hm : Small 100 (l ++ [(⟨n, v⟩ : PT)]) := ⟨by rw [List.length_append, List.length_singleton]; omega, fun x hx => by
    rcases List.mem_append.1 hx with hx | hx
    · exact hl.2 x hx
    · rw [List.mem_singleton.1 hx]; exact ⟨hn, hv⟩⟩
  have hlen : (l ++ [(⟨n, v⟩ : PT)]).length = l.length + 1 := by rw [List.length_append, List.length_singleton]
  have hrd : rd_T29 (l ++ [(⟨n, v⟩ : PT)]) (l.length : Int) = ⟨n, v⟩ := by rw [rd_at _ _ (by omega)]; simp
  have hal : allL n (l ++ [(⟨n, v⟩ : PT)]) = allL n l ++ [v] := by unfold allL; rw [List.filter_append, List.map_append]; simp [eqN_refl]
  have hall : (allL n l).length ≤ 31 := by unfold allL; rw [List.length_map]; exact Nat.le_trans (List.length_filter_le _ _) h1
  have hfin : tolllaw05_PairsAdds.j0 3000 n v (allL n l) (l ++ [(⟨n, v⟩ : PT)]) false = some true := by
    rw [show (3000 : Nat) = 2999 + 1 from rfl, tolllaw05_PairsAdds.j0, if_neg (by decide), all_p hn hm _ (by decide), Option.bind_some, Option.bind_some, if_pos (by simp; omega), Option.bind_some, if_pos (by simp; omega), hal, List.nil_append, same1 _ _ (by rw [List.length_append, List.length_singleton]; omega) (by decide), Option.bind_some, if_pos rfl, pairs_awake _ (by decide)]
    rfl
  rw [all_p hn (hl.mono (by decide)) _ (by decide), Option.bind_some, add_p n v hl (by decide), Option.bind_some, get_p hn hl, Option.bind_some, get_p hn hm, Option.bind_some, if_pos (by rw [wrapS (by omega), hlen]), if_pos (by omega), if_pos (by omega), hrd, if_neg (by simp)]
  have hg : getL (l ++ [(⟨n, v⟩ : PT)]) n = if (getL l n).2 = true then getL l n else (v, true) := by
    unfold getL
    rw [List.find?_append]
    cases h : l.find? (fun x => eqN x.f0 n) with
    | none => simp [eqN_refl]
    | some x => rfl
  rw [hg]
  cases h : (getL l n).2 with
  | true => rw [if_pos rfl, h, if_pos rfl, if_pos rfl, if_pos rfl]; exact hfin
  | false =>
    rw [show (if false = true then getL l n else (v, true)) = (v, true) from rfl, if_pos rfl, if_neg (by decide), bne_self_eq_false]
    exact hfin
end Go.Proofs.Ytnldeohdojemlaa.Pure
