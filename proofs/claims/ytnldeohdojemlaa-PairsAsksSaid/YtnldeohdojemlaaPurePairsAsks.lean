/- The pure statement of PairsAsks; no condition beyond the statement's. -/
import Derived.Test.YtnldeohdojemlaaPx0
import Derived.Test.YtnldeohdojemlaaPx7
import Derived.Test.YtnldeohdojemlaaLHolds
namespace Go.Proofs.Ytnldeohdojemlaa.Pure
open Go Go.RowKit Go.Proofs.Ytnldeohdojemlaa.P Go.Proofs.Ytnldeohdojemlaa.L Go.Proofs.YtnldeohdojemlaaW.PrintWords Go.Proofs.YtnldeohdojemlaaW.PrintLast
/-- No two pairs' names are the same. -/
def Apart (l : List PT) : Prop := ∀ (i : Nat) (hi : i < l.length) (j : Nat) (hj : j < i), eqN (l[i]'hi).f0 (l[j]'(by omega)).f0 = false
theorem Apart.one {l : List PT} (h : Apart l) {x y : PT} (hx : x ∈ l) (hy : y ∈ l) (e : eqN x.f0 y.f0 = true) : x = y := by
  obtain ⟨i, hi, rfl⟩ := List.getElem_of_mem hx
  obtain ⟨j, hj, rfl⟩ := List.getElem_of_mem hy
  rcases Nat.lt_trichotomy i j with c | c | c
  · rw [eqN_symm, h j hj i c] at e; cases e
  · subst c; rfl
  · rw [h i hi j c] at e; cases e
theorem mF_eqN {fold : Bool} {a b : ByteArray} (h : mF fold a b = true) : eqN a b = true := by
  unfold mF at h
  cases fold with
  | true => simpa using h
  | false => exact eqN_os (by simpa using h)
theorem Apart.self {l : List PT} (h : Apart l) (fold : Bool) : l.all (holdsOne fold l) = true := by
  refine List.all_eq_true.2 fun y hy => ?_
  unfold holdsOne
  cases hf : l.find? (fun x => mF fold x.f0 y.f0) with
  | none =>
    have := List.find?_eq_none.1 hf y hy
    exact absurd (by unfold mF; cases fold <;> simp [eqN_refl]) this
  | some x =>
    have h1 := List.find?_some hf
    rw [h.one (List.mem_of_find?_eq_some hf) hy (mF_eqN h1)]
    simp
theorem Apart.fold {a l : List PT} (h : Apart l) (ha : a.all (holdsOne false l) = true) : a.all (holdsOne true l) = true := by
  refine List.all_eq_true.2 fun y hy => ?_
  have h0 := List.all_eq_true.1 ha y hy
  unfold holdsOne at h0 ⊢
  cases hf : l.find? (fun x => mF false x.f0 y.f0) with
  | none => rw [hf] at h0; cases h0
  | some x =>
    rw [hf] at h0
    have h1 := mF_eqN (show mF false x.f0 y.f0 = true from List.find?_some (p := fun x : PT => mF false x.f0 y.f0) hf)
    have hx := List.mem_of_find?_eq_some hf
    cases hg : l.find? (fun x => mF true x.f0 y.f0) with
    | none => exact absurd (show mF true x.f0 y.f0 = true from h1) (List.find?_eq_none.1 hg x hx)
    | some z =>
      have h2 : eqN z.f0 y.f0 = true := List.find?_some (p := fun x : PT => mF true x.f0 y.f0) hg
      have : z = x := h.one (List.mem_of_find?_eq_some hg) hx (by rw [eqN_trans h2, eqN_symm]; exact h1)
      rw [this]; exact h0
theorem asks_l2 {a l : List PT} (hl : Small 31 l) (i : Nat) (hi : i < l.length) : ∀ (c j k : Nat), i - j = c → j ≤ i → 700 ≤ k → (∀ p, p < j → ∀ hp : p < l.length, eqN (l[i]'hi).f0 (l[p]'hp).f0 = false) →
    tolllaw05_PairsAsks.l2 (c + 1 + k) a l (i : Int) (j : Int) = some true ∨ (tolllaw05_PairsAsks.l2 (c + 1 + k) a l (i : Int) (j : Int) = tolllaw05_PairsAsks.l1 k a l ((i + 1 : Nat) : Int) ∧ ∀ p, p < i → ∀ hp : p < l.length, eqN (l[i]'hi).f0 (l[p]'hp).f0 = false) := by
  have hl1 := hl.1
  intro c
  induction c with
  | zero =>
    intro j k h1 h2 h3 h4
    obtain rfl : j = i := by omega
    refine .inr ⟨?_, h4⟩
    rw [show 0 + 1 + k = k + 1 by omega, tolllaw05_PairsAsks.l2, if_neg (by omega), wrapS (by omega)]
  | succ c ih =>
    intro j k h1 h2 h3 h4
    have hj : j < l.length := by omega
    have hx := hl.2 _ (List.getElem_mem hj)
    have hy := hl.2 _ (List.getElem_mem hi)
    rw [show c + 1 + 1 + k = (c + 1 + k) + 1 by omega, tolllaw05_PairsAsks.l2, if_pos (by omega), if_pos (by omega), if_pos (by omega), if_pos (by omega), if_pos (by omega), rd_at l i hi, rd_at l j hj, same_p _ _ (by omega) (by omega), Option.bind_some, wrapS (by omega)]
    cases he : eqN (l[i]'hi).f0 (l[j]'hj).f0 with
    | true => rw [if_pos rfl, pairs_awake _ (by omega)]; exact .inl rfl
    | false =>
      rw [if_neg (by decide)]
      exact ih (j + 1) k (by omega) (by omega) h3 (fun p hp hp' => by
        rcases Nat.lt_or_ge p j with h | h
        · exact h4 p h hp'
        · obtain rfl : p = j := by omega
          exact he)
theorem asks_l1 {a l : List PT} (ha : Small 31 a) (hl : Small 31 l) : ∀ (c i k : Nat), l.length - i = c → i ≤ l.length → c * 34 + 800 ≤ k → (∀ (p : Nat) (hp : p < l.length), p < i → ∀ (q : Nat) (hq : q < p), eqN (l[p]'hp).f0 (l[q]'(by omega)).f0 = false) → tolllaw05_PairsAsks.l1 k a l (i : Int) = some true := by
  have hl1 := hl.1
  intro c
  induction c with
  | zero =>
    intro i k h1 h2 h3 h4
    have hap : Apart l := fun p hp q hq => h4 p hp (by omega) q hq
    obtain ⟨k, rfl⟩ : ∃ m, k = m + 1 := ⟨k - 1, by omega⟩
    rw [tolllaw05_PairsAsks.l1, if_neg (by omega), holds_p true hl hl, Option.bind_some, hap.self, if_pos rfl, holds_p false hl hl, Option.bind_some, hap.self, if_pos rfl, holds_p false ha hl, Option.bind_some]
    cases h : a.all (holdsOne false l) with
    | true => rw [if_pos rfl, holds_p true ha hl, Option.bind_some, hap.fold h, if_pos rfl, pairs_awake _ (by omega)]; rfl
    | false => rw [if_neg (by decide), pairs_awake _ (by omega)]; rfl
  | succ c ih =>
    intro i k h1 h2 h3 h4
    have hi : i < l.length := by omega
    obtain ⟨k, rfl⟩ : ∃ m, k = (i + 1 + m) + 1 := ⟨k - i - 2, by omega⟩
    rw [tolllaw05_PairsAsks.l1, if_pos (by omega)]
    rcases asks_l2 (a := a) hl i hi i 0 k (by omega) (by omega) (by omega) (fun p hp => by omega) with h | ⟨h, h5⟩
    · exact h
    · refine Eq.trans h (ih (i + 1) k (by omega) (by omega) (by omega) (fun p hp hpi q hq => ?_))
      rcases Nat.lt_or_ge p i with hpi' | hpi'
      · exact h4 p hp hpi' q hq
      · obtain rfl : p = i := by omega
        exact h5 q hq (by omega)
theorem PairsAsks : tolllaw05_PairsAsks.Pure := by
  intro a0 b0 l0 _ _ _
  refine ⟨3000, ?_⟩
  have ha := fewL_small a0
  have hb := fewL_small b0
  have hl := fewL_small l0
  unfold tolllaw05_PairsAsks.f
  rw [fewL_eq _ _ (by decide), Option.bind_some, fewL_eq _ _ (by decide), Option.bind_some, fewL_eq _ _ (by decide), Option.bind_some]
  generalize fewL a0 = a at *
  generalize fewL b0 = b at *
  generalize fewL l0 = l at *
  have h1 := ha.1
  have h2 := hb.1
  have h3 := hl.1
  have hab : Small 62 (a ++ b) := ⟨by rw [List.length_append]; omega, fun x hx => by
    rcases List.mem_append.1 hx with hx | hx
    · exact ha.2 x hx
    · exact hb.2 x hx⟩
  rw [Option.bind_some, if_pos (by simp; omega), Option.bind_some, List.nil_append, if_pos (by omega), Option.bind_some]
  have step : ∀ (i : Nat) (fold : Bool), rdOf false [true, false] (i : Int) = fold → i < 2 → ∀ k, tolllaw05_PairsAsks.l0 (k + 1) a b l (a ++ b) [true, false] 2 (i : Int) = tolllaw05_PairsAsks.l0 k a b l (a ++ b) [true, false] 2 ((i + 1 : Nat) : Int) := by
    intro i fold hf hi k
    rw [tolllaw05_PairsAsks.l0, if_pos (by omega), if_pos (by omega), if_pos (by show (i : Int) < 2; omega), hf, holds_p fold hab hl, Option.bind_some, holds_p fold ha hl, Option.bind_some, holds_p fold hb hl, Option.bind_some, List.all_append, wrapS (by omega)]
    cases a.all (holdsOne fold l) <;> cases b.all (holdsOne fold l) <;> rfl
  have e0 := step 0 true rfl (by decide) 2999
  have e1 := step 1 false rfl (by decide) 2998
  refine Eq.trans e0 (Eq.trans e1 ?_)
  rw [show (2998 : Nat) = 2997 + 1 from rfl, tolllaw05_PairsAsks.l0, if_neg (by decide)]
  exact asks_l1 ha hl l.length 0 2997 (by omega) (by omega) (by omega) (fun p _ hp => by omega)
end Go.Proofs.Ytnldeohdojemlaa.Pure
