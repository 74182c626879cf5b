/- Of those of a list that hold the first one that comes first, by a comparison: plain lists alone. -/
import Derived.Test.YtjfjmniegceejaaDoorPx0
import Derived.Test.YtjfjmniegceejaaDoorLHostOrd
namespace Go.Proofs.YtjfjmniegceejaaDoor.L
/-- A comparison: never two ways, and from one on to the next. -/
structure Cmp {α : Type} (R : α → α → Int) : Prop where
  anti : ∀ x y, R y x = -R x y
  le : ∀ {x y z}, R x y ≤ 0 → R y z ≤ 0 → R x z ≤ 0
  lt : ∀ {x y z}, R x y < 0 → R y z ≤ 0 → R x z < 0
theorem Cmp.self {α : Type} {R : α → α → Int} (h : Cmp R) (x : α) : R x x = 0 := by have := h.anti x x; omega
theorem Cmp.not {α : Type} {R : α → α → Int} (h : Cmp R) {x y : α} (hn : ¬ R y x < 0) : R x y ≤ 0 := by have := h.anti x y; omega
variable {α : Type} {hold : α → Bool} {R : α → α → Int}
/-- At f stands the first one with the least key of those that hold. -/
noncomputable def BestOf (hold : α → Bool) (R : α → α → Int) (l : List α) (f : Nat) : Prop := ∃ x, l[f]? = some x ∧ hold x = true ∧ (∀ y ∈ l, hold y = true → R x y ≤ 0) ∧ ∀ j y, j < f → l[j]? = some y → hold y = true → R x y < 0
/-- Such a place, or that none holds. -/
noncomputable def IsOf (hold : α → Bool) (R : α → α → Int) (l : List α) : Option Nat → Prop
  | none => ∀ y ∈ l, hold y = false
  | some f => BestOf hold R l f
theorem getE_snoc {p : List α} {y z : α} {j : Nat} (h : (p ++ [y])[j]? = some z) : (j < p.length ∧ p[j]? = some z) ∨ (j = p.length ∧ z = y) := by
  rcases Nat.lt_or_ge j p.length with c | c
  · rw [List.getElem?_append_left c] at h; exact .inl ⟨c, h⟩
  · rw [List.getElem?_append_right c] at h
    rcases Nat.eq_zero_or_pos (j - p.length) with e | e
    · rw [e] at h; simp at h; exact .inr ⟨by omega, h.symm⟩
    · rw [List.getElem?_eq_none (by simp; omega)] at h; cases h
theorem getE_len {l : List α} {j : Nat} {x : α} (h : l[j]? = some x) : j < l.length := (List.getElem?_eq_some_iff.1 h).1
theorem IsOf.nil : IsOf hold R ([] : List α) none := fun _ h => by cases h
theorem IsOf.no {p : List α} {y : α} {o : Option Nat} (h : IsOf hold R p o) (hy : hold y = false) : IsOf hold R (p ++ [y]) o := by
  cases o with
  | none =>
    intro z hz
    rcases List.mem_append.1 hz with hz | hz
    · exact h z hz
    · rw [List.mem_singleton.1 hz]; exact hy
  | some f =>
    obtain ⟨x, h1, h2, h3, h4⟩ := h
    refine ⟨x, by rw [List.getElem?_append_left (getE_len h1)]; exact h1, h2, fun z hz hh => ?_, fun j z hj hz hh => ?_⟩
    · rcases List.mem_append.1 hz with hz | hz
      · exact h3 z hz hh
      · rw [List.mem_singleton.1 hz, hy] at hh; cases hh
    · rcases getE_snoc hz with ⟨_, hz⟩ | ⟨_, hz⟩
      · exact h4 j z hj hz hh
      · rw [hz, hy] at hh; cases hh
theorem IsOf.one {p : List α} {y : α} (h : IsOf hold R p none) (hc : Cmp R) (hy : hold y = true) : IsOf hold R (p ++ [y]) (some p.length) := by
  refine ⟨y, by simp, hy, fun z hz hh => ?_, fun j z hj hz hh => ?_⟩
  · rcases List.mem_append.1 hz with hz | hz
    · rw [h z hz] at hh; cases hh
    · rw [List.mem_singleton.1 hz]; exact Int.le_of_eq (hc.self _)
  · rcases getE_snoc hz with ⟨hl, hz⟩ | ⟨hl, hz⟩
    · rw [h z (List.mem_of_getElem? hz)] at hh; cases hh
    · omega
theorem IsOf.less {p : List α} {x y : α} {f : Nat} (h : IsOf hold R p (some f)) (hc : Cmp R) (hx : p[f]? = some x) (hy : hold y = true) (hk : R y x < 0) : IsOf hold R (p ++ [y]) (some p.length) := by
  obtain ⟨x', h1, h2, h3, h4⟩ := h
  obtain rfl : x' = x := Option.some.inj (h1.symm.trans hx)
  refine ⟨y, by simp, hy, fun z hz hh => ?_, fun j z hj hz hh => ?_⟩
  · rcases List.mem_append.1 hz with hz | hz
    · have := hc.lt hk (h3 z hz hh); omega
    · rw [List.mem_singleton.1 hz]; exact Int.le_of_eq (hc.self _)
  · rcases getE_snoc hz with ⟨hl, hz⟩ | ⟨hl, hz⟩
    · exact hc.lt hk (h3 z (List.mem_of_getElem? hz) hh)
    · omega
theorem IsOf.more {p : List α} {x y : α} {f : Nat} (h : IsOf hold R p (some f)) (hx : p[f]? = some x) (hk : R x y ≤ 0) : IsOf hold R (p ++ [y]) (some f) := by
  obtain ⟨x', h1, h2, h3, h4⟩ := h
  obtain rfl : x' = x := Option.some.inj (h1.symm.trans hx)
  refine ⟨x', by rw [List.getElem?_append_left (getE_len h1)]; exact h1, h2, fun z hz hh => ?_, fun j z hj hz hh => ?_⟩
  · rcases List.mem_append.1 hz with hz | hz
    · exact h3 z hz hh
    · rw [List.mem_singleton.1 hz]; exact hk
  · have := getE_len h1
    rcases getE_snoc hz with ⟨hl, hz⟩ | ⟨hl, hz⟩
    · exact h4 j z hj hz hh
    · omega
theorem IsOf.some_of {l : List α} {o : Option Nat} (h : IsOf hold R l o) {y : α} (hy : y ∈ l) (hh : hold y = true) : ∃ f x, o = some f ∧ l[f]? = some x ∧ hold x = true ∧ ∀ z ∈ l, hold z = true → R x z ≤ 0 := by
  cases o with
  | none => rw [h y hy] at hh; cases hh
  | some f => obtain ⟨x, h1, h2, h3, _⟩ := h; exact ⟨f, x, rfl, h1, h2, h3⟩
theorem IsOf.unique {l : List α} {o o' : Option Nat} (h : IsOf hold R l o) (hc : Cmp R) (h' : IsOf hold R l o') : o = o' := by
  cases o with
  | none =>
    cases o' with
    | none => rfl
    | some f => obtain ⟨x, h1, h2, _⟩ := h'; rw [h x (List.mem_of_getElem? h1)] at h2; cases h2
  | some f =>
    obtain ⟨x, h1, h2, h3, h4⟩ := h
    cases o' with
    | none => rw [h' x (List.mem_of_getElem? h1)] at h2; cases h2
    | some g =>
      obtain ⟨y, g1, g2, g3, g4⟩ := h'
      have e1 := h3 y (List.mem_of_getElem? g1) g2
      have e2 := g3 x (List.mem_of_getElem? h1) h2
      rcases Nat.lt_trichotomy f g with c | c | c
      · have := g4 f x c h1 h2; have := hc.anti x y; omega
      · rw [c]
      · have := h4 g y c g1 g2; have := hc.anti x y; omega
end Go.Proofs.YtjfjmniegceejaaDoor.L
