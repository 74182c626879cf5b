/- The pure statement of PathSwaps: Order and Swap answer as the reference; no condition beyond the statement's. -/
import Derived.Test.YtfnckickbpmcaaaPx0
import Derived.Test.YtfnckickbpmcaaaPx7
import Derived.Test.YtfnckickbpmcaaaPx8
import Derived.Test.YtfnckickbpmcaaaLOrd
namespace Go.Proofs.Ytfnckickbpmcaaa.Pure
open Go Go.RowKit Go.Proofs.Ytfnckickbpmcaaa.P Go.Proofs.Ytfnckickbpmcaaa.L Go.Proofs.YtfnckickbpmcaaaW.PrintWords Go.Proofs.YtfnckickbpmcaaaW.PrintLast
theorem ref_order (k j : Int) (a b : ByteArray) : tollref03_Order.f k a j b = some (ordP k (os a) j (os b)) := by
  unfold tollref03_Order.f
  rw [toList_os, toList_os]
  have hz := ordP_zero k j (os a) (os b)
  by_cases h0 : k = j ∧ os a = os b
  · rw [if_pos (by rw [h0.1, h0.2]; simp), hz.2 h0]
  · have h1 : ¬ ((k == j && (os a == os b)) = true) := by
      intro h
      simp only [Bool.and_eq_true, beq_iff_eq] at h
      exact h0 h
    rw [if_neg h1]
    unfold ordP orI
    have c1 := cmpI_cases k j
    have c2 := cmpI_cases ((os b).length : Int) (os a).length
    have c3 := cmpB_cases (os a) (os b)
    rw [size_os a, size_os b]
    by_cases h2 : k = j
    · rw [if_pos h2, if_pos (show cmpI k j = 0 by rcases c1 with h | h | h <;> omega)]
      by_cases h3 : ((os a).length : Int) = (os b).length
      · rw [if_pos h3, if_pos (show cmpI ((os b).length : Int) (os a).length = 0 by rcases c2 with h | h | h <;> omega)]
        rcases c3 with h | h | h
        · rw [if_pos h.2, h.1]
        · exact absurd ⟨h2, h.2⟩ h0
        · rw [if_neg (by rw [bytesLess_asymm h.2]; decide), h.1]
      · rw [if_neg h3]
        rcases c2 with h | h | h
        · rw [if_pos (by omega), if_neg (by omega), h.1]
        · omega
        · rw [if_neg (by omega), if_neg (by omega), h.1]
    · rw [if_neg h2]
      rcases c1 with h | h | h
      · rw [if_pos h.2, if_neg (by omega), h.1]
      · exact absurd h.2 h2
      · rw [if_neg (by omega), if_neg (by omega), h.1]
theorem PathSwaps : tolllaw03_PathSwaps.Pure := by
  intro k p j q w s _
  obtain ⟨p', hp, hpl⟩ := few_path k p
  obtain ⟨q', hq, hql⟩ := few_path j q
  obtain ⟨w', hw, hwl⟩ := few_one w
  obtain ⟨s', hs, hsl⟩ := few_one s
  have h1 := size_os p'
  have h2 := size_os w'
  have h3 := size_os s'
  refine ⟨1000, ?_⟩
  unfold tolllaw03_PathSwaps.f
  obtain ⟨t, e, ht, he⟩ := path_swap k p' w' s' 1000 (by omega) (by omega) (by omega) (by omega)
  obtain ⟨u, f, hu, hf⟩ := ref_swap k p' w' s' 1000 (by omega) (by omega) (by omega) (by omega)
  rw [← hf, Prod.mk.injEq] at he
  rw [hp, Option.bind_some, hq, Option.bind_some, hw, Option.bind_some, hs, Option.bind_some, ht, Option.bind_some, hu, Option.bind_some, path_order k j p' q' 1000 (by omega), Option.bind_some, ref_order, Option.bind_some]
  simp only [if_true, toList_os]
  rw [if_pos he.1, if_pos he.2, path_awake 1000 (by omega)]
  rfl
end Go.Proofs.Ytfnckickbpmcaaa.Pure
