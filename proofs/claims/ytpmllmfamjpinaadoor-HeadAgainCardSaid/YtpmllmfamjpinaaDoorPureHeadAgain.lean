/- The pure statement of HeadAgain; no condition beyond the statement's. -/
import Derived.Test.YtpmllmfamjpinaaDoorKHeadAgain
import Derived.Test.YtpmllmfamjpinaaDoorPx0
import Derived.Test.YtpmllmfamjpinaaDoorPx13
import Derived.Test.YtpmllmfamjpinaaDoorPx14
import Derived.Test.YtpmllmfamjpinaaDoorPx6
namespace Go.Proofs.YtpmllmfamjpinaaDoor.Pure
open Go Go.RowKit Go.Proofs.YtpmllmfamjpinaaDoor.P Go.Proofs.YtpmllmfamjpinaaDoor.L Go.Proofs.YtpmllmfamjpinaaDoorW.PrintWords Go.Proofs.YtpmllmfamjpinaaDoorW.PrintLast
theorem few18 (s : ByteArray) : ∃ t, tolllaw18_Few.f s = some t ∧ t.size ≤ 1100 := by
  unfold tolllaw18_Few.f
  by_cases h : (s.size : Int) > 1100
  · rw [if_pos h, if_pos (by decide), if_pos (by omega)]
    exact ⟨_, rfl, by rw [ByteArray.size_extract]; omega⟩
  · rw [if_neg h]; exact ⟨_, rfl, by omega⟩
theorem HeadAgain : tolllaw18_HeadAgain.Pure := by
  intro a0 _
  obtain ⟨t, e1, z1⟩ := few18 a0
  refine ⟨6000, ?_⟩
  have aw := head_awake 6000 (by omega)
  have key : (∃ e : Int, e ≠ 0 ∧ head_Parse.f 6000 t = some (⟨#[]⟩, ⟨#[]⟩, ⟨#[]⟩, [], [], 0, e)) ∨ (∃ m h p q l n, GoodR m h p q l ∧ head_Parse.f 6000 t = some (m, h, p, q, l, n, 0)) := by
    rw [show (6000 : Nat) = 5999 + 1 from rfl]
    by_cases hneg : iE t < 0
    · exact .inl ⟨if t.size ≥ 1000 then 5 else 8, by split <;> decide, by rw [parse_eq t (by omega), if_pos hneg]⟩
    · obtain ⟨i, hi⟩ : ∃ i : Nat, iE t = (i : Int) := ⟨(iE t).toNat, by omega⟩
      obtain ⟨q1, q2, q3, q4⟩ := iE_at hi
      have hx : (t.extract 0 i).size ≤ 998 := by rw [ByteArray.size_extract]; omega
      obtain ⟨r1, r2, r3, r4, r5, r6, er, l4, l5⟩ := read_h (t.extract 0 i) hx 5999 (by omega)
      rw [parse_eq t (by omega), if_neg hneg, hi, Int.toNat_natCast, er, Option.bind_some]
      cases r6 with
      | false => exact .inl ⟨2, by decide, rfl⟩
      | true => exact .inr ⟨r1, r2, r3, r4, r5, _, read_good _ hx 5999 (by omega) er, by rw [if_pos rfl]⟩
  unfold tolllaw18_HeadAgain.f
  rw [e1, Option.bind_some]
  rcases key with ⟨e, he, hp⟩ | ⟨m, h, p, q, l, n, g, hp⟩
  · rw [hp, Option.bind_some, if_neg he, aw]; rfl
  · rw [hp, Option.bind_some]
    dsimp only
    rw [if_pos rfl, g.lay 6000 (by omega), Option.bind_some]
    unfold layEnd
    by_cases hb : (headL (os m) (os p) q l).length > 1000
    · rw [if_pos hb]
      dsimp only
      rw [if_neg (by decide), if_pos rfl, aw]; rfl
    · have z := size_mk (headL (os m) (os p) q l)
      have h2 := (isQ_all g.qq).2
      have h30 := g.n30
      rw [if_neg hb]
      dsimp only
      rw [if_pos rfl, g.parse ⟨(headL (os m) (os p) q l).toArray⟩ [] (by rw [os_mk, List.append_nil]) (by omega) (by omega) 6000 (by omega), Option.bind_some]
      dsimp only
      rw [same_ask _ _ _ _ _ (by omega) (by omega) 6000 (by omega), Option.bind_some, if_pos rfl, if_pos (by rw [z]), if_pos rfl, aw]; rfl
end Go.Proofs.YtpmllmfamjpinaaDoor.Pure
