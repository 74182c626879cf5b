/- FilterMays: the program and the reference answer the same for each filter, and for all together; then the examples. -/
import Derived.Test.YtfdopmjgiakcdaaGreatDoorKFilterMays
import Derived.Test.YtfdopmjgiakcdaaGreatDoorPx0
import Derived.Test.YtfdopmjgiakcdaaGreatDoorPx19
namespace Go.Proofs.YtfdopmjgiakcdaaGreatDoor.Pure
open Go Go.RowKit Go.Proofs.YtfdopmjgiakcdaaGreatDoor.P Go.Proofs.YtfdopmjgiakcdaaGreatDoor.L Go.Proofs.YtfdopmjgiakcdaaGreatDoorW.PrintWords Go.Proofs.YtfdopmjgiakcdaaGreatDoorW.PrintLast
theorem mays_loop (l : List FT) (hs : ∀ x ∈ l, SF x) (hl : l.length ≤ 9) : ∀ (n i k : Nat), l.length - i = n → i ≤ l.length → n + 7000 ≤ k → tolllaw07_FilterMays.l0 k l (i : Int) = some true := by
  intro n
  induction n with
  | zero =>
    intro i k h1 h2 h3
    obtain ⟨k, rfl⟩ : ∃ m, k = m + 1 := ⟨k - 1, by omega⟩
    rw [tolllaw07_FilterMays.l0, if_neg (by omega), all_f l k (by omega) hs, Option.bind_some, all_r' l k (by omega) hl hs, Option.bind_some, if_pos (by simp), filter_awake k (by omega), Option.bind_some]
  | succ n ih =>
    intro i k h1 h2 h3
    obtain ⟨k, rfl⟩ : ∃ m, k = m + 1 := ⟨k - 1, by omega⟩
    have hi : i < l.length := by omega
    have hx := hs _ (List.getElem_mem hi)
    rw [tolllaw07_FilterMays.l0, if_pos (by omega), if_pos (by omega), rdF l i hi, may_p _ hx k (by omega), Option.bind_some, may_r _ hx k (by omega), Option.bind_some, if_neg (by simp), wrapF (by omega), ih (i + 1) k (by omega) (by omega) (by omega)]
theorem FilterMays_answers (l : List FT) : ∃ k, tolllaw07_FilterMays.f k l = some true := by
  refine ⟨8000, ?_⟩
  unfold tolllaw07_FilterMays.f
  rw [fewF_eq l _ (by omega), Option.bind_some]
  exact mays_loop (fewF l) (fewF_small l).2 (fewF_small l).1 _ 0 _ rfl (Nat.zero_le _) (by have := (fewF_small l).1; omega)
theorem FilterMays : tolllaw07_FilterMays.Pure := fun l _ => FilterMays_answers l
end Go.Proofs.YtfdopmjgiakcdaaGreatDoor.Pure
