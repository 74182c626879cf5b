/- The pure statement of HostJust; no condition beyond the statement's. -/
import Derived.Test.YtjfjmniegceejaaDoorPx0
import Derived.Test.YtjfjmniegceejaaDoorPx8
import Derived.Test.YtjfjmniegceejaaDoorLHostOf
namespace Go.Proofs.YtjfjmniegceejaaDoor.Pure
open Go Go.RowKit Go.Proofs.YtjfjmniegceejaaDoor.P Go.Proofs.YtjfjmniegceejaaDoor.L Go.Proofs.YtjfjmniegceejaaDoorW.PrintWords Go.Proofs.YtjfjmniegceejaaDoorW.PrintLast
theorem HostJust : tolllaw02_HostJust.Pure := by
  intro a0 b0 h0 _ _ _
  refine ⟨9000, ?_⟩
  unfold tolllaw02_HostJust.f
  rw [few_eq, Option.bind_some, few_eq, Option.bind_some, few_eq, Option.bind_some]
  have ha := few_len a0
  have hb := few_len b0
  have hh := few_len h0
  generalize few a0 = a at *
  generalize few b0 = b at *
  generalize few h0 = h at *
  have hj := meet_just (a := os a) (b := os b) (h := os h)
  obtain ⟨t, m1, m2, m3⟩ := meet_h a b (by omega) (by omega) 8999 (by decide)
  have fin : ∀ x7 : Bool, x7 = (holdsH (os a) (os h) && holdsH (os b) (os h)) → tolllaw02_HostJust.j0 9000 a b h x7 = some true := fun x7 hx => by
    rw [show (9000 : Nat) = 8999 + 1 from rfl, tolllaw02_HostJust.j0, m1, Option.bind_some]
    cases hz : meetO (os a) (os b) with
    | some x =>
      rw [hz] at hj m2
      have e : os t = x := m2
      show (if true = true then _ else _) = some true
      rw [if_pos rfl, may_h, e, hj.1, Option.bind_some, if_pos rfl, holds_h t h m3 (by omega) _ (by decide), e, Option.bind_some, hj.2, if_pos (by rw [hx]; exact beq_self_eq_true _), host_awake _ (by decide)]; rfl
    | none =>
      rw [hz] at hj m2
      have e : os t = [] := m2
      rw [hj] at hx
      show (if false = true then _ else _) = some true
      rw [if_neg (by decide), if_neg (by rw [hx]; decide), toList_os, e, if_pos rfl, host_awake _ (by decide)]; rfl
  rw [holds_h a h (by omega) (by omega) _ (by decide), Option.bind_some]
  cases h1 : holdsH (os a) (os h) with
  | true =>
    rw [if_pos rfl, holds_h b h (by omega) (by omega) _ (by decide), Option.bind_some]
    exact fin _ (by rw [h1, Bool.true_and])
  | false => rw [if_neg (by decide)]; exact fin _ (by rw [h1, Bool.false_and])
end Go.Proofs.YtjfjmniegceejaaDoor.Pure
