/- The pure statement of HostTurns; no condition beyond the statement's. -/
import Derived.Test.YtjfjmniegceejaaDoorPx0
import Derived.Test.YtjfjmniegceejaaDoorPx8
import Derived.Test.YtjfjmniegceejaaDoorLHostOf
namespace Go.Proofs.YtjfjmniegceejaaDoor.Pure
open Go Go.RowKit Go.Proofs.YtjfjmniegceejaaDoor.P Go.Proofs.YtjfjmniegceejaaDoor.L Go.Proofs.YtjfjmniegceejaaDoorW.PrintWords Go.Proofs.YtjfjmniegceejaaDoorW.PrintLast
theorem turns_j1 (a : ByteArray) (ha : (os a).length ≤ 100) (k : Nat) (hk : 2000 ≤ k) : tolllaw02_HostTurns.j1 k a false = some true := by
  obtain ⟨k, rfl⟩ : ∃ m, k = m + 1 := ⟨k - 1, by omega⟩
  obtain ⟨t, m1, m2, m3⟩ := meet_h a a (by omega) (by omega) k (by omega)
  rw [tolllaw02_HostTurns.j1, if_neg (by decide), m1, Option.bind_some, may_h, Option.bind_some]
  rw [meetO_self] at m2 ⊢
  cases hm : mayH (os a) with
  | true =>
    rw [hm] at m2
    have e : os t = os a := m2
    simp [toList_os, e, host_awake k (by omega)]
  | false => simp [host_awake k (by omega)]
theorem HostTurns : tolllaw02_HostTurns.Pure := by
  intro a0 b0 c0 _ _ _
  refine ⟨9000, ?_⟩
  unfold tolllaw02_HostTurns.f
  rw [few_eq, Option.bind_some, few_eq, Option.bind_some, few_eq, Option.bind_some]
  have ha := few_len a0
  have hb := few_len b0
  have hc := few_len c0
  generalize few a0 = a at *
  generalize few b0 = b at *
  generalize few c0 = c at *
  obtain ⟨x, m1, m2, m3⟩ := meet_h a b (by omega) (by omega) 9000 (by decide)
  obtain ⟨y, n1, n2, n3⟩ := meet_h b a (by omega) (by omega) 9000 (by decide)
  rw [meetO_comm] at n1 n2
  obtain ⟨p, p1, p2, p3⟩ := meet_h x c m3 (by omega) 8999 (by decide)
  obtain ⟨q, q1, q2, q3⟩ := meet_h b c (by omega) (by omega) 8999 (by decide)
  obtain ⟨r, r1, r2, r3⟩ := meet_h a q (by omega) q3 8999 (by decide)
  have hassoc := meet_assoc (os a) (os b) (os c)
  rw [m1, Option.bind_some, n1, Option.bind_some, toList_os, toList_os, if_pos (by rw [m2, n2]), show (9000 : Nat) = 8999 + 1 from rfl, tolllaw02_HostTurns.j0, bne_self_eq_false, if_neg (by decide), p1, Option.bind_some, q1, Option.bind_some, r1, Option.bind_some]
  rw [m2] at p1 p2 ⊢
  rw [q2] at r1 r2 ⊢
  rw [toList_os, toList_os, p2, r2]
  have hf := turns_j1 a ha 8999 (by decide)
  cases hx : meetO (os a) (os b) with
  | none =>
    rw [hx] at hassoc
    cases hy : meetO (os b) (os c) with
    | none => simp [hf]
    | some w =>
      rw [hy] at hassoc
      have e : meetO (os a) w = none := hassoc.symm
      simp [e, hf]
  | some v =>
    rw [hx] at hassoc
    cases hy : meetO (os b) (os c) with
    | none =>
      rw [hy] at hassoc
      have e : meetO v (os c) = none := hassoc
      simp [e, hf]
    | some w =>
      rw [hy] at hassoc
      have e : meetO v (os c) = meetO (os a) w := hassoc
      simp [e, hf]
end Go.Proofs.YtjfjmniegceejaaDoor.Pure
