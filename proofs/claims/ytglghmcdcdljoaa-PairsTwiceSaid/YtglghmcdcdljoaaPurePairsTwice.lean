/- The pure statement of PairsTwice; no condition beyond the statement's. -/
import Derived.Test.YtglghmcdcdljoaaKPairsTwice
import Derived.Test.YtglghmcdcdljoaaPx0
import Derived.Test.YtglghmcdcdljoaaPx2
import Derived.Test.YtglghmcdcdljoaaPx4
namespace Go.Proofs.Ytglghmcdcdljoaa.Pure
open Go Go.RowKit Go.Proofs.Ytglghmcdcdljoaa.P Go.Proofs.Ytglghmcdcdljoaa.L Go.Proofs.YtglghmcdcdljoaaW.PrintWords Go.Proofs.YtglghmcdcdljoaaW.PrintLast
theorem get_all (n : ByteArray) (l : List PT) : getL l n = match (allL n l).head? with | none => ((⟨#[]⟩ : ByteArray), false) | some v => (v, true) := by
  unfold getL allL
  induction l with
  | nil => rfl
  | cons x r ih =>
    rw [List.find?_cons, List.filter_cons]
    cases h : eqN x.f0 n with
    | true => rfl
    | false => exact ih
theorem set_all (n v : ByteArray) (l : List PT) : allL n (setL n v l false) = [v] ∧ (setL n v l false).length = (l.filter fun x => !eqN x.f0 n).length + 1 ∧ ∀ m, eqN n m = false → allL m (setL n v l false) = allL m l := by
  have hf : ∀ (p : List PT), (∀ x ∈ p, eqN x.f0 n = false) → p.filter (fun x => eqN x.f0 n) = [] := fun p h => List.filter_eq_nil_iff.2 fun x hx => by rw [h x hx]; decide
  rcases split_n n l with h | ⟨p, x, r, rfl, h1, h0⟩
  · have e : setL n v l false = l ++ [⟨n, v⟩] := by
      have := setL_skip n v l [] h
      rwa [List.append_nil] at this
    rw [e]
    refine ⟨?_, ?_, fun m hm => ?_⟩
    · unfold allL; rw [List.filter_append, hf l h]; simp [eqN_refl]
    · rw [filter_none n l h, List.length_append, List.length_singleton]
    · unfold allL; rw [List.filter_append]; simp [hm]
  · have hr : (r.filter fun x : PT => !eqN x.f0 n).filter (fun x => eqN x.f0 n) = [] := hf _ fun y hy => by simpa using (List.mem_filter.1 hy).2
    have e : setL n v (p ++ x :: r) false = p ++ ⟨n, v⟩ :: r.filter fun x => !eqN x.f0 n := by rw [setL_skip n v p _ h0, setL, if_pos h1, if_neg (by decide), setL_true]
    rw [e]
    refine ⟨?_, ?_, fun m hm => ?_⟩
    · unfold allL; rw [List.filter_append, hf p h0, List.filter_cons, hr]; simp [eqN_refl]
    · rw [List.filter_append, filter_none n p h0, List.filter_cons, h1, List.length_append, List.length_append, List.length_cons]; simp; omega
    · have hx : eqN x.f0 m = false := by rw [eqN_trans h1]; exact hm
      unfold allL
      rw [List.filter_append, List.filter_append, List.filter_cons, List.filter_cons, hx, show eqN (⟨n, v⟩ : PT).f0 m = false from hm, if_neg (by decide), if_neg (by decide), List.filter_filter]
      congr 2
      refine List.filter_congr fun y _ => ?_
      cases hy : eqN y.f0 m with
      | false => simp
      | true =>
        have : eqN y.f0 n = false := by
          cases hc : eqN y.f0 n with
          | false => rfl
          | true => rw [eqN_trans hc, hm] at hy; cases hy
        rw [this]; rfl
theorem set_set (n v u : ByteArray) (l : List PT) : setL n u (setL n v l false) false = setL n u l false := by
  rcases split_n n l with h | ⟨p, x, r, rfl, h1, h0⟩
  · have e : ∀ v, setL n v l false = l ++ [⟨n, v⟩] := fun v => by
      have := setL_skip n v l [] h
      rwa [List.append_nil] at this
    rw [e, e, setL_skip n u l _ h, setL, if_pos (eqN_refl n), if_neg (by decide)]; rfl
  · have e : ∀ v, setL n v (p ++ x :: r) false = p ++ ⟨n, v⟩ :: r.filter fun x => !eqN x.f0 n := fun v => by rw [setL_skip n v p _ h0, setL, if_pos h1, if_neg (by decide), setL_true]
    rw [e, e, setL_skip n u p _ h0, setL, if_pos (eqN_refl n), if_neg (by decide), setL_true, List.filter_filter]
    congr 2
    exact List.filter_congr fun y _ => by cases eqN y.f0 n <;> rfl
theorem drop_drop (n : ByteArray) (l : List PT) : ((l.filter fun x => !eqN x.f0 n).filter fun x => !eqN x.f0 n) = l.filter fun x => !eqN x.f0 n := by
  rw [List.filter_filter]
  exact List.filter_congr fun y _ => by cases eqN y.f0 n <;> rfl
theorem drop_len (n : ByteArray) (l : List PT) : (l.filter fun x => !eqN x.f0 n).length + (allL n l).length = l.length := by
  unfold allL
  rw [List.length_map]
  induction l with
  | nil => rfl
  | cons x r ih =>
    rw [List.filter_cons, List.filter_cons]
    cases eqN x.f0 n <;> simp <;> omega
theorem set_len (x y u v : ByteArray) (l : List PT) (h : eqN x y = false) : (setL y v (setL x u l false) false).length = (setL x u (setL y v l false) false).length := by
  have h' : eqN y x = false := by rw [eqN_symm]; exact h
  obtain ⟨_, b1, c1⟩ := set_all x u l
  obtain ⟨_, b2, c2⟩ := set_all y v l
  obtain ⟨_, b3, _⟩ := set_all y v (setL x u l false)
  obtain ⟨_, b4, _⟩ := set_all x u (setL y v l false)
  have d1 := drop_len y (setL x u l false)
  have d2 := drop_len x (setL y v l false)
  have d3 := drop_len x l
  have d4 := drop_len y l
  rw [c1 y h] at d1
  rw [c2 x h'] at d2
  omega
theorem few_one1 (p q : ByteArray) (k : Nat) (hk : 70 ≤ k) : tolllaw05_Few.f k [(⟨p, q⟩ : PT)] = some [⟨few p, few q⟩] := by rw [fewL_eq _ _ hk]; rfl
theorem PairsTwice : tolllaw05_PairsTwice.Pure := by
  intro l0 p0 p1 q0 q1 _ _ _
  refine ⟨2999 + 1, ?_⟩
  have hl := fewL_small l0
  have hx := few_len p0
  have hu := few_len p1
  have hy := few_len q0
  have hv := few_len q1
  have h1 := hl.1
  unfold tolllaw05_PairsTwice.f
  rw [fewL_eq _ _ (by omega), Option.bind_some, few_one1 _ _ _ (by omega), Option.bind_some, if_pos (by show (0 : Int) < 1; decide), few_one1 _ _ _ (by omega), Option.bind_some, if_pos (by show (0 : Int) < 1; decide), show rd_T24 [(⟨few p0, few p1⟩ : PT)] 0 = ⟨few p0, few p1⟩ from rfl, show rd_T24 [(⟨few q0, few q1⟩ : PT)] 0 = ⟨few q0, few q1⟩ from rfl]
  dsimp only
  generalize fewL l0 = l at *
  generalize few p0 = x at *
  generalize few p1 = u at *
  generalize few q0 = y at *
  generalize few q1 = v at *
  have sx := setL_small hx hu hl
  have sv := setL_small hx hv hl
  have sy := setL_small hy hv hl
  have sxy := setL_small hy hv sx
  have syx := setL_small hx hu sy
  have sd := hl.filter fun z => !eqN z.f0 x
  have sv1 := sv.1
  have sd1 := sd.1
  rw [set_p hx v hl (by decide), Option.bind_some, set_p hx u hl (by decide), Option.bind_some, set_p hx v sx (by decide), Option.bind_some, set_set, same4 _ _ (by omega) (by omega), Option.bind_some, if_pos rfl, drop_p hx hl (by decide), Option.bind_some, drop_p hx sd (by decide), Option.bind_some, Option.bind_some, drop_drop, same4 _ _ (by omega) (by omega), Option.bind_some, Bool.not_true, tolllaw05_PairsTwice.j0, if_neg (by decide)]
  rw [set_p hx u hl (by decide), Option.bind_some, set_p hy v sx (by decide), Option.bind_some, set_p hy v hl (by decide), Option.bind_some, set_p hx u sy (by decide), Option.bind_some, same_p x y (by omega) (by omega), Option.bind_some]
  cases he : eqN x y with
  | true => rw [if_pos rfl, pairs_awake _ (by decide)]; rfl
  | false =>
    have he' : eqN y x = false := by rw [eqN_symm]; exact he
    have g1 : getL (setL y v (setL x u l false) false) x = (u, true) := by
      rw [get_all, (set_all y v (setL x u l false)).2.2 x he', (set_all x u l).1]; rfl
    have g2 : getL (setL x u (setL y v l false) false) x = (u, true) := by
      rw [get_all, (set_all x u (setL y v l false)).1]; rfl
    rw [if_neg (by decide), get_p hx sxy, Option.bind_some, get_p hx syx, Option.bind_some, g1, g2, if_pos (by rw [set_len x y u v l he]), if_pos rfl, if_pos rfl, pairs_awake _ (by decide)]; rfl
end Go.Proofs.Ytglghmcdcdljoaa.Pure
