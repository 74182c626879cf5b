/- The pure statement of PairsOnce; no condition beyond the statement's. -/
import Derived.Test.YtnldeohdojemlaaPx0
import Derived.Test.YtnldeohdojemlaaPx8
import Derived.Test.YtnldeohdojemlaaLHolds
namespace Go.Proofs.Ytnldeohdojemlaa.Pure
open Go Go.RowKit Go.Proofs.Ytnldeohdojemlaa.P Go.Proofs.Ytnldeohdojemlaa.L Go.Proofs.YtnldeohdojemlaaW.PrintWords Go.Proofs.YtnldeohdojemlaaW.PrintLast
theorem once_get (n v : ByteArray) (l : List PT) : getL (setL n v l false) n = (v, true) ∧ (setL n v l false).filter (fun x => eqN x.f0 n) = [⟨n, v⟩] ∧ (setL n v l false).length = (l.filter fun x => !eqN x.f0 n).length + 1 ∧ ∀ m, eqN n m = false → allL m (setL n v l false) = allL m l := by
  have hf : ∀ (p : List PT), (∀ x ∈ p, eqN x.f0 n = false) → p.filter (fun x => eqN x.f0 n) = [] := fun p h => List.filter_eq_nil_iff.2 fun x hx => by rw [h x hx]; decide
  rcases split_n n l with h | ⟨p, x, r, rfl, h1, h0⟩
  · have e : setL n v l false = l ++ [⟨n, v⟩] := by
      have := setL_skip n v l [] h
      rwa [List.append_nil] at this
    rw [e]
    refine ⟨?_, ?_, ?_, fun m hm => ?_⟩
    · unfold getL
      rw [List.find?_append, List.find?_eq_none.2 (fun x hx => by rw [h x hx]; decide)]
      simp [eqN_refl]
    · rw [List.filter_append, hf l h]; simp [eqN_refl]
    · rw [filter_none n l h, List.length_append, List.length_singleton]
    · unfold allL; rw [List.filter_append]; simp [hm]
  · have hr : (r.filter fun x : PT => !eqN x.f0 n).filter (fun x => eqN x.f0 n) = [] := hf _ fun y hy => by simpa using (List.mem_filter.1 hy).2
    have e : setL n v (p ++ x :: r) false = p ++ ⟨n, v⟩ :: r.filter fun x => !eqN x.f0 n := by rw [setL_skip n v p _ h0, setL, if_pos h1, if_neg (by decide), setL_true]
    rw [e]
    refine ⟨?_, ?_, ?_, fun m hm => ?_⟩
    · unfold getL
      rw [List.find?_append, List.find?_eq_none.2 (fun x hx => by rw [h0 x hx]; decide)]
      simp [eqN_refl]
    · rw [List.filter_append, hf p h0, List.filter_cons, hr]; simp [eqN_refl]
    · rw [List.filter_append, filter_none n p h0, List.filter_cons, h1, List.length_append, List.length_append, List.length_cons]; simp; omega
    · have hx : eqN x.f0 m = false := by rw [eqN_trans h1]; exact hm
      unfold allL
      rw [List.filter_append, List.filter_append, List.filter_cons, List.filter_cons, hx, show eqN (⟨n, v⟩ : PT).f0 m = false from hm, if_neg (by decide), if_neg (by decide), List.filter_filter]
      congr 2
      refine List.filter_congr fun y _ => ?_
      cases hy : eqN y.f0 m with
      | false => simp
      | true =>
        have : eqN y.f0 n = false := by
          cases hc : eqN y.f0 n with
          | false => rfl
          | true => rw [eqN_trans hc, hm] at hy; cases hy
        rw [this]; rfl
theorem once_gone (n : ByteArray) (l : List PT) : getL (l.filter fun x => !eqN x.f0 n) n = ((⟨#[]⟩ : ByteArray), false) ∧ ∀ m, eqN n m = false → allL m (l.filter fun x => !eqN x.f0 n) = allL m l := by
  refine ⟨?_, fun m hm => ?_⟩
  · unfold getL
    rw [List.find?_eq_none.2 (fun x hx => by have := (List.mem_filter.1 hx).2; simpa using this)]
  · unfold allL
    rw [List.filter_filter]
    congr 1
    refine List.filter_congr fun y _ => ?_
    cases hy : eqN y.f0 m with
    | false => simp
    | true =>
      have : eqN y.f0 n = false := by
        cases hc : eqN y.f0 n with
        | false => rfl
        | true => rw [eqN_trans hc, hm] at hy; cases hy
      rw [this]; rfl
theorem PairsOnce : tolllaw05_PairsOnce.Pure := by
  intro l0 n0 v0 m0 _
  refine ⟨3000, ?_⟩
  have hl := fewL_small l0
  have hn := few_len n0
  have hv := few_len v0
  have hm := few_len m0
  have h1 := hl.1
  unfold tolllaw05_PairsOnce.f
  rw [fewL_eq _ _ (by decide), Option.bind_some, few_eq, Option.bind_some, few_eq, Option.bind_some, few_eq, Option.bind_some]
  generalize fewL l0 = l at *
  generalize few n0 = n at *
  generalize few v0 = v at *
  generalize few m0 = m at *
  have hs := setL_small hn hv hl
  have hd := hl.filter fun x => !eqN x.f0 n
  have hd1 := hd.1
  obtain ⟨g1, g2, g3, g4⟩ := once_get n v l
  obtain ⟨d1, d2⟩ := once_gone n l
  have ha : allL n (setL n v l false) = [v] := by unfold allL; rw [g2]; rfl
  have hal : ∀ n, (allL n l).length ≤ 31 := fun n => by unfold allL; rw [List.length_map]; exact Nat.le_trans (List.length_filter_le _ _) h1
  rw [set_p hn v hl (by decide), Option.bind_some, drop_p hn hl (by decide), Option.bind_some, get_p hn hs, Option.bind_some, get_p hn hd, Option.bind_some, g1, d1, if_pos rfl, if_pos rfl, if_neg (by decide), all_p hn (hs.mono (by decide)) _ (by decide), Option.bind_some, ha, if_pos (by rfl), g3, wrapS (by omega), bne_self_eq_false]
  rw [show (3000 : Nat) = 2999 + 1 from rfl, tolllaw05_PairsOnce.j0, if_neg (by decide), same_p n m (by omega) (by omega), Option.bind_some]
  cases he : eqN n m with
  | true => rw [if_pos rfl, pairs_awake _ (by decide)]; rfl
  | false =>
    rw [if_neg (by decide), all_p hm (hl.mono (by decide)) _ (by decide), Option.bind_some, all_p hm (hs.mono (by decide)) _ (by decide), Option.bind_some, g4 m he, same1 _ _ (by have := hal m; omega) (by decide), Option.bind_some, if_pos rfl, all_p hm (hd.mono (by decide)) _ (by decide), Option.bind_some, d2 m he, same1 _ _ (by have := hal m; omega) (by decide), Option.bind_some, if_pos rfl, pairs_awake _ (by decide)]
    rfl
end Go.Proofs.Ytnldeohdojemlaa.Pure
