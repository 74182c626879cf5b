/- The pure statement of RuleTurns; no condition beyond the statement's. -/
import Derived.Test.YtompldnifiieaaaDoorKRuleTurns
import Derived.Test.YtompldnifiieaaaDoorPx0
import Derived.Test.YtompldnifiieaaaDoorPx23
namespace Go.Proofs.YtompldnifiieaaaDoor.Pure
open Go Go.RowKit Go.Proofs.YtompldnifiieaaaDoor.P Go.Proofs.YtompldnifiieaaaDoor.L Go.Proofs.YtompldnifiieaaaDoorW.PrintWords Go.Proofs.YtompldnifiieaaaDoorW.PrintLast
theorem RuleTurns : tolllaw06_RuleTurns.Pure := by
  intro l0 rm0 rho0 rp0 rq0 rh0 a _ _ ha
  refine ⟨9001, ?_⟩
  unfold tolllaw06_RuleTurns.f
  rw [some_eq _ _ (by decide), Option.bind_some, asked_eq _ _ _ _ _ _ (by decide), Option.bind_some]
  rw [show (9001 : Nat) = 9000 + 1 from rfl, tolllaw06_RuleTurns.j0]
  dsimp only
  have hl := someM_small l0
  generalize someM l0 = l at *
  have hrq := fewL_small rq0
  have hrh := fewL_small rh0
  generalize few rm0 = rm
  generalize few rho0 = rho
  generalize few rp0 = rp
  generalize fewL rq0 = rq at *
  generalize fewL rh0 = rh at *
  have hl1 := hl.1
  have hl100 : SmallMs 100 l := ⟨by omega, hl.2⟩
  obtain ⟨o, b1, e1⟩ := first_p l hl100 rm rho rp rq rh hrq hrh 9000 (by decide)
  rw [e1, Option.bind_some]
  by_cases hz : l.length = 0
  · rw [if_pos (by omega)]
    have : o = none := by
      cases o with
      | none => rfl
      | some f => obtain ⟨x, h, _⟩ := b1; have := getE_len h; omega
    rw [this]
    show (if (false : Bool) = true then _ else _) = _
    rw [if_neg (by decide), rule_awake]; rfl
  · have ha0 : 0 ≤ a ∧ a ≤ 255 := by
      simp [Lit.wf, IntKind.min, IntKind.max, IntKind.signed, IntKind.bits] at ha
      omega
    obtain ⟨i, ei, hi⟩ : ∃ i : Nat, Int.tmod (wrap64 a) (l.length : Int) = (i : Int) ∧ i < l.length := by
      rw [wrap64_id (by omega) (by omega), Int.tmod_eq_emod_of_nonneg ha0.1]
      have h1 := Int.emod_nonneg a (b := (l.length : Int)) (by omega)
      have h2 := Int.emod_lt_of_pos a (b := (l.length : Int)) (by omega)
      exact ⟨(a % (l.length : Int)).toNat, by omega, by omega⟩
    have htl : (l.drop i ++ l.take i).length = l.length := by rw [List.length_append, List.length_drop, List.length_take]; omega
    have hm : ∀ y, y ∈ l ↔ y ∈ l.drop i ++ l.take i := fun y => by
      conv => lhs; rw [← List.take_append_drop i l]
      rw [List.mem_append, List.mem_append, or_comm]
    have ht : SmallMs 100 (l.drop i ++ l.take i) := ⟨by omega, fun x hx => hl.2 x ((hm x).2 hx)⟩
    have hll : SmallMs 100 (l ++ l) := ⟨by rw [List.length_append]; omega, fun x hx => by rcases List.mem_append.1 hx with h | h <;> exact hl.2 x h⟩
    obtain ⟨o', b2, e2⟩ := first_p _ ht rm rho rp rq rh hrq hrh 9000 (by decide)
    have e3 := first_is hll rm rho rp hrq hrh (k := 9000) (by decide) b1.twice
    rw [if_neg (by omega), ei, Option.bind_some, if_pos (by omega), if_pos (by omega), Option.bind_some, if_pos (by rw [List.length_nil, List.length_drop]; omega), Option.bind_some, Option.bind_some, Int.toNat_natCast, List.nil_append, if_pos (by rw [List.length_drop, List.length_take]; omega), Option.bind_some, e2, Option.bind_some, Option.bind_some, if_pos (by rw [List.length_nil]; omega), Option.bind_some, List.nil_append, if_pos (by omega), e3, Option.bind_some]
    rcases b1.same b2 hm with ⟨rfl, rfl⟩ | ⟨f, g, x, y, rfl, rfl, h1, h2, h3⟩
    · show tolllaw06_RuleTurns.j1 9000 l 0 false (l.drop i ++ l.take i) 0 ((0 : Int) != 0) = _
      rw [show (9000 : Nat) = 8999 + 1 from rfl, tolllaw06_RuleTurns.j1, if_neg (by decide), if_neg (by decide), rule_awake]; rfl
    · have hf := getE_len h1
      have hg := getE_len h2
      obtain ⟨_, rfl⟩ := List.getElem?_eq_some_iff.1 h1
      obtain ⟨_, rfl⟩ := List.getElem?_eq_some_iff.1 h2
      show tolllaw06_RuleTurns.j1 9000 l (f : Int) true (l.drop i ++ l.take i) (g : Int) ((f : Int) != (f : Int)) = _
      rw [show (9000 : Nat) = 8998 + 1 + 1 from rfl, tolllaw06_RuleTurns.j1, show ((f : Int) != (f : Int)) = false by simp, if_neg (by decide), if_pos rfl, if_neg (by omega), if_neg (by omega), if_neg (by omega), show decide ((g : Int) ≥ (l.length : Int)) = false from decide_eq_false (by omega), tolllaw06_RuleTurns.j2, if_neg (by decide), if_pos (by omega), if_pos (by omega), if_pos (by omega), if_pos (by omega), rd_m l f hf, rd_m _ g hg, ord_x (hl.2 _ (List.getElem_mem hf)) (ht.2 _ (List.getElem_mem hg)), Option.bind_some, if_pos (by unfold sgn; rw [if_neg (by omega), if_pos h3]), rule_awake]; rfl
end Go.Proofs.YtompldnifiieaaaDoor.Pure
