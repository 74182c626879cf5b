/- The pure statement of HeadCuts; no condition beyond the statement's. -/
import Derived.Test.YtpmllmfamjpinaaDoorKHeadCuts
import Derived.Test.YtpmllmfamjpinaaDoorPx0
import Derived.Test.YtpmllmfamjpinaaDoorPx5
import Derived.Test.YtpmllmfamjpinaaDoorPx6
import Derived.Test.YtpmllmfamjpinaaDoorPx8
import Derived.Test.YtpmllmfamjpinaaDoorPx9
namespace Go.Proofs.YtpmllmfamjpinaaDoor.Pure
open Go Go.RowKit Go.Proofs.YtpmllmfamjpinaaDoor.P Go.Proofs.YtpmllmfamjpinaaDoor.L Go.Proofs.YtpmllmfamjpinaaDoorW.PrintWords Go.Proofs.YtpmllmfamjpinaaDoorW.PrintLast
theorem few18 (s : ByteArray) : ∃ t, tolllaw18_Few.f s = some t ∧ t.size ≤ 1100 := by
  unfold tolllaw18_Few.f
  by_cases h : (s.size : Int) > 1100
  · rw [if_pos h, if_pos (by decide), if_pos (by omega)]
    exact ⟨_, rfl, by rw [ByteArray.size_extract]; omega⟩
  · rw [if_neg h]; exact ⟨_, rfl, by omega⟩
theorem HeadCuts : tolllaw18_HeadCuts.Pure := by
  intro a0 a1 a2 _ _ h2
  have b2 : 0 ≤ a2 ∧ a2 ≤ 65535 := by simp [Lit.wf, IntKind.min, IntKind.max, IntKind.signed, IntKind.bits] at h2; omega
  obtain ⟨t, e1, z1⟩ := few18 a0
  obtain ⟨b, e2, z2⟩ := few18 a1
  refine ⟨6000, ?_⟩
  unfold tolllaw18_HeadCuts.f
  rw [e1, Option.bind_some, e2, Option.bind_some, show (6000 : Nat) = 5999 + 1 from rfl]
  have hz := size_os t
  have key : (∃ e : Int, e ≠ 0 ∧ head_Parse.f (5999 + 1) t = some (⟨#[]⟩, ⟨#[]⟩, ⟨#[]⟩, [], [], 0, e)) ∨ (∃ i : Nat, iE t = (i : Int) ∧ ∃ r1 r2 r3 r4 r5, head_read.f 5999 (t.extract 0 i) = some (r1, r2, r3, r4, r5, true) ∧ r4.length ≤ 1000 ∧ r5.length ≤ 1000) := by
    by_cases hneg : iE t < 0
    · exact .inl ⟨if t.size ≥ 1000 then 5 else 8, by split <;> decide, by rw [parse_eq t (by omega), if_pos hneg]⟩
    · obtain ⟨i, hi⟩ : ∃ i : Nat, iE t = (i : Int) := ⟨(iE t).toNat, by omega⟩
      obtain ⟨q1, q2, q3, q4⟩ := iE_at hi
      obtain ⟨r1, r2, r3, r4, r5, r6, er, l4, l5⟩ := read_h (t.extract 0 i) (by rw [ByteArray.size_extract]; omega) 5999 (by omega)
      cases r6 with
      | false =>
        refine .inl ⟨2, by decide, ?_⟩
        rw [parse_eq t (by omega), if_neg hneg, hi, Int.toNat_natCast, er, Option.bind_some]
        rfl
      | true => exact .inr ⟨i, hi, r1, r2, r3, r4, r5, er, l4, l5⟩
  rcases key with ⟨e, he, hp⟩ | ⟨i, hi, r1, r2, r3, r4, r5, er, l4, l5⟩
  · rw [hp, Option.bind_some, if_neg he, if_pos rfl, same_ask _ _ _ _ _ (Nat.zero_le _) (Nat.zero_le _) _ (by omega), Option.bind_some, if_pos rfl, head_awake _ (by omega)]; rfl
  · obtain ⟨q1, q2, q3, q4⟩ := iE_at hi
    have hneg : ¬ iE t < 0 := by omega
    · rw [parse_eq t (by omega), if_neg hneg, hi, Int.toNat_natCast, er, Option.bind_some, if_pos rfl, Option.bind_some]
      have hn : ((i : Int) + 4) = ((i + 4 : Nat) : Int) := by omega
      dsimp only
      rw [if_pos rfl, hn, if_neg (by omega), show decide (((i + 4 : Nat) : Int) > (t.size : Int)) = false from decide_eq_false (by omega), show (5999 + 1 : Nat) = (5998 + 1) + 1 from rfl, tolllaw18_HeadCuts.j0, if_neg (by decide), if_neg (by omega)]
      obtain ⟨j, ej, hj⟩ : ∃ j : Nat, Int.tmod (wrap64 a2) ((i + 4 : Nat) : Int) = (j : Int) ∧ j < i + 4 := by
        rw [wrap64_id (by omega) (by omega), Int.tmod_eq_emod_of_nonneg b2.1]
        have h3 := Int.emod_nonneg a2 (b := ((i + 4 : Nat) : Int)) (by omega)
        have h4 := Int.emod_lt_of_pos a2 (b := ((i + 4 : Nat) : Int)) (by omega)
        exact ⟨(a2 % ((i + 4 : Nat) : Int)).toNat, by omega, by omega⟩
      have oj : os (t.extract 0 j) = (os t).take j := by rw [os_extract, List.drop_zero, Nat.sub_zero]
      have on : os (t.extract 0 (i + 4)) = (os t).take (i + 4) := by rw [os_extract, List.drop_zero, Nat.sub_zero]
      have zj : (t.extract 0 j).size = j := by rw [ByteArray.size_extract]; omega
      have zn : (t.extract 0 (i + 4)).size = i + 4 := by rw [ByteArray.size_extract]; omega
      have hcut : iE (t.extract 0 j) < 0 := by
        refine Int.lt_of_not_ge fun hge => ?_
        obtain ⟨m, hm⟩ : ∃ m : Nat, iE (t.extract 0 j) = (m : Int) := ⟨(iE (t.extract 0 j)).toNat, by omega⟩
        obtain ⟨p1, p2, p3, _⟩ := iE_at hm
        rw [oj, List.length_take] at p1
        have hmi : m < i := by omega
        have := q4 m hmi
        rw [occ_take (n := j) (m := (os (t.extract 0 j)).take 1000) (by rw [oj, List.take_take, List.take_take, List.take_take]; congr 1; omega) (by omega) (by rw [List.length_take]; omega) (by rw [oj, List.length_take, List.length_take]; omega)] at this
        rw [this] at p3; cases p3
      obtain ⟨u, hu⟩ : ∃ u, u = t.extract 0 (i + 4) ++ b := ⟨_, rfl⟩
      have ou : os u = (os t).take (i + 4) ++ os b := by rw [hu, os_append, on]
      have tu : (os u).take (i + 4) = (os t).take (i + 4) := by rw [ou, List.take_append_of_le_length (by rw [List.length_take]; omega), List.take_take, Nat.min_self]
      have lu : i + 4 ≤ (os u).length := by rw [ou, List.length_append, List.length_take]; omega
      have tk : ∀ m, m + 4 ≤ i + 4 → Go.Lib.occAt ((os u).take 1000) [13, 10, 13, 10] m = Go.Lib.occAt ((os t).take 1000) [13, 10, 13, 10] m := fun m hm => occ_take (n := i + 4) (by rw [List.take_take, List.take_take, Nat.min_eq_left q2]; exact tu) hm (by rw [List.length_take]; omega) (by rw [List.length_take]; omega)
      have iu : iE u = (i : Int) := iE_of lu q2 ((tk i (Nat.le_refl _)).trans q3) (fun m hm => (tk m (by omega)).trans (q4 m hm))
      have xu : u.extract 0 i = t.extract 0 i := os_inj (by
        rw [os_extract, os_extract, List.drop_zero, List.drop_zero, Nat.sub_zero]
        have : ∀ x : List UInt8, x.take i = (x.take (i + 4)).take i := fun x => by rw [List.take_take, Nat.min_eq_left (by omega)]
        rw [this (os u), this (os t), tu])
      have zb := size_os b
      have zu : u.size ≤ 3000 := by rw [size_os, ou, List.length_append, List.length_take]; omega
      have er2 : head_read.f 5998 (t.extract 0 i) = some (r1, r2, r3, r4, r5, true) := by
        obtain ⟨x1, x2, x3, x4, x5, x6, ex, _, _⟩ := read_h (t.extract 0 i) (by rw [ByteArray.size_extract]; omega) 5998 (by omega)
        have := head_read.mono (t.extract 0 i) 5998 _ ex
        rw [er] at this
        rw [ex, this]
      rw [ej, if_pos (by omega), if_pos (by omega), Int.toNat_natCast, parse_eq _ (by omega), if_pos hcut, Option.bind_some, if_pos (by omega), if_pos (by omega), Int.toNat_natCast, if_pos (by rw [zn]; omega), ← hu, parse_eq u (by omega), iu, if_neg (by omega), Int.toNat_natCast, xu, er2, Option.bind_some, if_pos rfl, Option.bind_some]
      dsimp only
      rw [if_neg (show ¬ (t.extract 0 j).size ≥ 1000 by omega), if_pos rfl, same_ask _ _ _ _ _ l4 l5 _ (by omega), Option.bind_some, if_pos rfl, if_pos hn, if_pos rfl, head_awake _ (by omega)]; rfl
end Go.Proofs.YtpmllmfamjpinaaDoor.Pure
