/- The pure statement of RuleRanks; no condition beyond the statement's. -/
import Derived.Test.YtompldnifiieaaaDoorKRuleRanks
import Derived.Test.YtompldnifiieaaaDoorPx0
import Derived.Test.YtompldnifiieaaaDoorPx16
import Derived.Test.YtompldnifiieaaaDoorPx17
import Derived.Test.YtompldnifiieaaaDoorPx18
import Derived.Test.YtompldnifiieaaaDoorPx19
import Derived.Test.YtompldnifiieaaaDoorPx20
namespace Go.Proofs.YtompldnifiieaaaDoor.Pure
open Go Go.RowKit Go.Proofs.YtompldnifiieaaaDoor.P Go.Proofs.YtompldnifiieaaaDoor.L Go.Proofs.YtompldnifiieaaaDoorW.PrintWords Go.Proofs.YtompldnifiieaaaDoorW.PrintLast
theorem RuleRanks : tolllaw06_RuleRanks.Pure := by
  intro k0 p0 m0 h0 q0 k1 p1 m1 h1 q1 k2 p2 m2 h2 q2 _ _ _
  refine ⟨9000, ?_⟩
  unfold tolllaw06_RuleRanks_g1.f tolllaw06_RuleRanks_g2.f tolllaw06_RuleRanks_g3.f tolllaw06_RuleRanks_g4.f tolllaw06_RuleRanks_g5.f
  simp only [fewM_eq _ _ _ _ _ 9000 (by decide), Option.bind_some]
  have o1 := ord_p (k := k0) (k' := k1) (p := few p0) (p' := few p1) (m := few m0) (m' := few m1) (few_len p0) (fewL_small h0) (fewL_small q0) (few_len p1) (fewL_small h1) (fewL_small q1)
  have o2 := ord_p (k := k1) (k' := k2) (p := few p1) (p' := few p2) (m := few m1) (m' := few m2) (few_len p1) (fewL_small h1) (fewL_small q1) (few_len p2) (fewL_small h2) (fewL_small q2)
  have o3 := ord_p (k := k0) (k' := k2) (p := few p0) (p' := few p2) (m := few m0) (m' := few m2) (few_len p0) (fewL_small h0) (fewL_small q0) (few_len p2) (fewL_small h2) (fewL_small q2)
  have o4 := ord_p (k := k1) (k' := k0) (p := few p1) (p' := few p0) (m := few m1) (m' := few m0) (few_len p1) (fewL_small h1) (fewL_small q1) (few_len p0) (fewL_small h0) (fewL_small q0)
  have o5 := ord_p (k := k0) (k' := k0) (p := few p0) (p' := few p0) (m := few m0) (m' := few m0) (few_len p0) (fewL_small h0) (fewL_small q0) (few_len p0) (fewL_small h0) (fewL_small q0)
  simp only [o1, o2, o3, o4, o5, Option.bind_some, rule_awake]
  clear o1 o2 o3 o4 o5
  generalize keyM k0 (few p0) (few m0) (fewL h0) (fewL q0) = x
  generalize keyM k1 (few p1) (few m1) (fewL h1) (fewL q1) = y
  generalize keyM k2 (few p2) (few m2) (fewL h2) (fewL q2) = z
  have e : sgn x x = 0 := by unfold sgn; rw [if_neg (by omega), if_pos rfl]
  have c1 : (sgn x y = -1 ∧ sgn y x = 1 ∧ x < y) ∨ (sgn x y = 0 ∧ sgn y x = 0 ∧ x = y) ∨ (sgn x y = 1 ∧ sgn y x = -1 ∧ y < x) := by
    unfold sgn; rcases Int.lt_trichotomy x y with h | h | h
    · left; exact ⟨by rw [if_pos h], by rw [if_neg (by omega), if_neg (by omega)], h⟩
    · right; left; exact ⟨by rw [if_neg (by omega), if_pos h], by rw [if_neg (by omega), if_pos h.symm], h⟩
    · right; right; exact ⟨by rw [if_neg (by omega), if_neg (by omega)], by rw [if_pos h], h⟩
  have c2 : (sgn y z = -1 ∧ y < z) ∨ (sgn y z = 0 ∧ y = z) ∨ (sgn y z = 1 ∧ z < y) := by
    unfold sgn; rcases Int.lt_trichotomy y z with h | h | h
    · left; exact ⟨by rw [if_pos h], h⟩
    · right; left; exact ⟨by rw [if_neg (by omega), if_pos h], h⟩
    · right; right; exact ⟨by rw [if_neg (by omega), if_neg (by omega)], h⟩
  have c3 : (sgn x z = -1 ∧ x < z) ∨ (sgn x z = 0 ∧ x = z) ∨ (sgn x z = 1 ∧ z < x) := by
    unfold sgn; rcases Int.lt_trichotomy x z with h | h | h
    · left; exact ⟨by rw [if_pos h], h⟩
    · right; left; exact ⟨by rw [if_neg (by omega), if_pos h], h⟩
    · right; right; exact ⟨by rw [if_neg (by omega), if_neg (by omega)], h⟩
  rcases c1 with ⟨e1, e2, l1⟩ | ⟨e1, e2, l1⟩ | ⟨e1, e2, l1⟩ <;> rcases c2 with ⟨e3, l2⟩ | ⟨e3, l2⟩ | ⟨e3, l2⟩ <;> rcases c3 with ⟨e4, l3⟩ | ⟨e4, l3⟩ | ⟨e4, l3⟩ <;> first | (exfalso; omega) | (clear l1 l2 l3; rw [e, e1, e2, e3, e4]; decide +kernel)
end Go.Proofs.YtompldnifiieaaaDoor.Pure
