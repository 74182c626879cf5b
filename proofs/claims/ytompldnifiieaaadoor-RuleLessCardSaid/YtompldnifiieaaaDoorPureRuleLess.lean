/- The pure statement of RuleLess; no condition beyond the statement's. -/
import Derived.Test.YtompldnifiieaaaDoorKRuleLess
import Derived.Test.YtompldnifiieaaaDoorPx0
import Derived.Test.YtompldnifiieaaaDoorPx25
namespace Go.Proofs.YtompldnifiieaaaDoor.Pure
open Go Go.RowKit Go.Proofs.YtompldnifiieaaaDoor.P Go.Proofs.YtompldnifiieaaaDoor.L Go.Proofs.YtompldnifiieaaaDoorW.PrintWords Go.Proofs.YtompldnifiieaaaDoorW.PrintLast
theorem cut_one (l : List PT) (a : Int) (hl : 0 < l.length) : ∃ i : Nat, (Int.tdiv a 3 % 256) % (l.length : Int) = (i : Int) ∧ i < l.length := by
  have h1 := Int.emod_nonneg (Int.tdiv a 3 % 256) (b := (l.length : Int)) (by omega)
  have h2 := Int.emod_lt_of_pos (Int.tdiv a 3 % 256) (b := (l.length : Int)) (by omega)
  exact ⟨((Int.tdiv a 3 % 256) % (l.length : Int)).toNat, by omega, by omega⟩
theorem cut_sub (l : List PT) (i : Nat) : (l.take i ++ l.drop (i + 1)).Sublist l := by
  rw [← List.eraseIdx_eq_take_drop_succ]; exact List.eraseIdx_sublist l i
theorem less_j1 {k : Int} {p m m' : ByteArray} {h h' q q' : List PT} (rm rho rp : ByteArray) {rq rh : List PT} (hp : (os p).length ≤ 100) (hh : Small 31 h) (hq : Small 31 q) (hrq : Small 31 rq) (hrh : Small 31 rh) (hm : os m' = [] ∨ m' = m) (hhs : h'.Sublist h) (hqs : q'.Sublist q) (hx : mayR k p m h q = true) (n : Nat) (hn : 4000 ≤ n) :
    tolllaw06_RuleLess.j1 n k p m h q rm rho rp rq rh k p m' h' q' = some true := by
  obtain ⟨n, rfl⟩ : ∃ i, n = i + 1 := ⟨n - 1, by omega⟩
  have hh' := Small.sub hhs hh
  have hq' := Small.sub hqs hq
  have hk := less_key (k := k) (p := p) hm hhs hqs
  have e3 : ∀ {x y : Int}, x ≤ y → sgn y x ≥ 0 := fun {x y} hxy => by
    unfold sgn; rw [if_neg (by omega)]; split <;> decide
  rw [tolllaw06_RuleLess.j1, may_p _ _ _ _ _ hp hh' hq' _ (by omega), Option.bind_some, less_may hm hhs hqs hx, if_pos rfl, hold_p _ _ _ _ _ hp hh hq _ _ _ _ _ hrq hrh _ (by omega), Option.bind_some, hold_p _ _ _ _ _ hp hh' hq' _ _ _ _ _ hrq hrh _ (by omega), ord_p hp hh' hq' hp hh hq, Option.bind_some, Option.bind_some, if_pos (e3 hk), rule_awake]
  cases hb : holdsM k p m h q rm rp rq rh with
  | false => rfl
  | true => rw [if_pos rfl, less_holds hm hhs hqs hb]; rfl
theorem less_j0 {k : Int} {p m : ByteArray} {h q : List PT} (rm rho rp : ByteArray) {rq rh : List PT} (hp : (os p).length ≤ 100) (hh : Small 31 h) (hq : Small 31 q) (hrq : Small 31 rq) (hrh : Small 31 rh) (hx : mayR k p m h q = true) (a : Int) (b : Bool) (hb : b = true → 0 < h.length) (n : Nat) (hn : 4100 ≤ n) :
    tolllaw06_RuleLess.j0 n a b k p m h q rm rho rp rq rh k p m h q = some true := by
  obtain ⟨n, rfl⟩ : ∃ i, n = i + 1 := ⟨n - 1, by omega⟩
  have h1 := hh.1
  have h2 := hq.1
  have fin : ∀ (h' q' : List PT), h'.Sublist h → q'.Sublist q → tolllaw06_RuleLess.j1 n k p m h q rm rho rp rq rh k p m h' q' = some true := fun h' q' e1 e2 => less_j1 rm rho rp hp hh hq hrq hrh (.inr rfl) e1 e2 hx n (by omega)
  rw [tolllaw06_RuleLess.j0]
  cases b with
  | true =>
    have hl := hb rfl
    obtain ⟨i, e1, e2⟩ := cut_one h a hl
    rw [if_pos rfl, if_neg (by omega), e1, wrapS (by omega), Option.bind_some, if_pos (by omega), if_pos (by omega), Option.bind_some, if_pos (by rw [List.length_take, List.length_nil]; omega), Option.bind_some, if_pos (by omega), if_pos (by omega), Option.bind_some, if_pos (by rw [List.nil_append, List.length_take, List.length_drop]; omega), List.nil_append, Int.toNat_natCast, Int.toNat_natCast]
    exact fin _ _ (cut_sub h i) (List.Sublist.refl q)
  | false =>
    rw [if_neg (by decide)]
    by_cases hl : 0 < q.length
    · obtain ⟨i, e1, e2⟩ := cut_one q a hl
      rw [if_pos (by omega), if_neg (by omega), e1, wrapS (by omega), Option.bind_some, if_pos (by omega), if_pos (by omega), Option.bind_some, if_pos (by rw [List.length_take, List.length_nil]; omega), Option.bind_some, if_pos (by omega), if_pos (by omega), Option.bind_some, if_pos (by rw [List.nil_append, List.length_take, List.length_drop]; omega), List.nil_append, Int.toNat_natCast, Int.toNat_natCast]
      exact fin _ _ (List.Sublist.refl h) (cut_sub q i)
    · rw [if_neg (by omega)]
      exact fin _ _ (List.Sublist.refl h) (List.Sublist.refl q)
theorem RuleLess : tolllaw06_RuleLess.Pure := by
  intro k0 p0 m0 h0 q0 rm0 rho0 rp0 rq0 rh0 a _ _ _
  refine ⟨9000, ?_⟩
  unfold tolllaw06_RuleLess.f
  simp only [fewM_eq _ _ _ _ _ 9000 (by decide), asked_eq _ _ _ _ _ 9000 (by decide), Option.bind_some]
  have e1 := may_p k0 (few p0) (few m0) (fewL h0) (fewL q0) (few_len p0) (fewL_small h0) (fewL_small q0) 9000 (by decide)
  have e2 := hold_p k0 (few p0) (few m0) (fewL h0) (fewL q0) (few_len p0) (fewL_small h0) (fewL_small q0) (few rm0) (few rho0) (few rp0) (fewL rq0) (fewL rh0) (fewL_small rq0) (fewL_small rh0) 9000 (by decide)
  rw [e1, Option.bind_some]
  cases hx : mayR k0 (few p0) (few m0) (fewL h0) (fewL q0) with
  | false =>
    have : holdsM k0 (few p0) (few m0) (fewL h0) (fewL q0) (few rm0) (few rp0) (fewL rq0) (fewL rh0) = false := by unfold holdsM; rw [hx]; rfl
    rw [if_neg (by decide), e2, this, Option.bind_some, if_neg (by decide), rule_awake]; rfl
  | true =>
    rw [if_pos rfl]
    by_cases c1 : Int.tmod a 3 = 0
    · rw [if_pos c1]
      exact less_j1 _ _ _ (few_len _) (fewL_small _) (fewL_small _) (fewL_small _) (fewL_small _) (.inl rfl) (List.Sublist.refl _) (List.Sublist.refl _) hx 9000 (by decide)
    · rw [if_neg c1]
      by_cases c2 : Int.tmod a 3 = 1
      · rw [if_pos c2]
        exact less_j0 _ _ _ (few_len _) (fewL_small _) (fewL_small _) (fewL_small _) (fewL_small _) hx a _ (fun h => by have := of_decide_eq_true h; omega) 9000 (by decide)
      · rw [if_neg c2]
        exact less_j0 _ _ _ (few_len _) (fewL_small _) (fewL_small _) (fewL_small _) (fewL_small _) hx a false (fun h => by cases h) 9000 (by decide)
end Go.Proofs.YtompldnifiieaaaDoor.Pure
