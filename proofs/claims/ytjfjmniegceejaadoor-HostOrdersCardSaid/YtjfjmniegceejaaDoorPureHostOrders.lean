/- The pure statement of HostOrders; no condition beyond the statement's. -/
import Derived.Test.YtjfjmniegceejaaDoorPx0
import Derived.Test.YtjfjmniegceejaaDoorPx12
import Derived.Test.YtjfjmniegceejaaDoorLHostOrd
namespace Go.Proofs.YtjfjmniegceejaaDoor.Pure
open Go Go.RowKit Go.Proofs.YtjfjmniegceejaaDoor.P Go.Proofs.YtjfjmniegceejaaDoor.L Go.Proofs.YtjfjmniegceejaaDoorW.PrintWords Go.Proofs.YtjfjmniegceejaaDoorW.PrintLast
theorem orders_j0 (a b : ByteArray) (ha : (os a).length ≤ 100) (hb : (os b).length ≤ 100) (x : Int) (hx : x = lexI (keyH (os a)) (keyH (os b))) (k : Nat) (hk : 2000 ≤ k) : tolllaw02_HostOrders.j0 k a b x false = some true := by
  obtain ⟨k, rfl⟩ : ∃ m, k = m + 1 := ⟨k - 1, by omega⟩
  obtain ⟨t, m1, m2, m3⟩ := meet_h a b (by omega) (by omega) k (by omega)
  rw [tolllaw02_HostOrders.j0, if_neg (by decide), m1, Option.bind_some, host_awake k (by omega)]
  cases hz : meetO (os a) (os b) with
  | none => simp
  | some z =>
    rw [hz] at m2
    have e : os t = z := m2
    obtain ⟨_, _, h3, h4, h5⟩ := meetO_iff.1 hz
    show (if true = true then _ else _) = some true
    rw [if_pos rfl, toList_os, toList_os, toList_os, e]
    by_cases c1 : z = os a
    · rw [if_pos c1]
      by_cases c2 : os a = os b
      · rw [if_pos c2]; rfl
      · rw [if_neg c2, if_pos (by rw [hx]; exact below_first (by rw [← c1]; exact h5) c2)]; rfl
    · rw [if_neg c1]; rfl
theorem HostOrders : tolllaw02_HostOrders.Pure := by
  intro a0 b0 c0 _ _ _
  refine ⟨9000, ?_⟩
  unfold tolllaw02_HostOrders.f
  rw [few_eq, Option.bind_some, few_eq, Option.bind_some, few_eq, Option.bind_some]
  have ha := few_len a0
  have hb := few_len b0
  have hc := few_len c0
  generalize few a0 = a at *
  generalize few b0 = b at *
  generalize few c0 = c at *
  have r1 := lexI_range (keyH (os a)) (keyH (os b))
  have hz : (lexI (keyH (os a)) (keyH (os b)) == 0) = (os a == os b) := by
    rw [Bool.eq_iff_iff, beq_iff_eq, beq_iff_eq]
    exact ⟨fun h => keyH_inj (lexI_zero _ _ h), fun h => by rw [h, lexI_refl]⟩
  have hj := orders_j0 a b ha hb _ rfl 9000 (by decide)
  rw [order_h a b (by omega) (by omega) _ (by decide), Option.bind_some, order_h b c (by omega) (by omega) _ (by decide), Option.bind_some, order_h a c (by omega) (by omega) _ (by decide), Option.bind_some, order_h b a (by omega) (by omega) _ (by decide), Option.bind_some, lexI_anti (keyH (os a)) (keyH (os b)), if_pos (by rw [wrap64_id (by omega) (by omega)]), toList_os, toList_os, hz, bne_self_eq_false, if_neg (by decide)]
  have t1 := @lexI_le (keyH (os a)) (keyH (os b)) (keyH (os c))
  have t2 := @lexI_lt_le (keyH (os a)) (keyH (os b)) (keyH (os c))
  by_cases c1 : lexI (keyH (os a)) (keyH (os b)) ≤ 0
  · rw [if_pos c1]
    by_cases c2 : lexI (keyH (os b)) (keyH (os c)) ≤ 0
    · have h3 := t1 c1 c2
      rw [if_pos c2, if_neg (by omega)]
      by_cases c3 : lexI (keyH (os a)) (keyH (os b)) < 0
      · have h4 := t2 c3 c2
        rw [if_pos c3, decide_eq_false (by omega)]; exact hj
      · rw [if_neg c3]; exact hj
    · rw [if_neg c2]
      split <;> exact hj
  · rw [if_neg c1, if_neg (by omega)]
    exact hj
end Go.Proofs.YtjfjmniegceejaaDoor.Pure
