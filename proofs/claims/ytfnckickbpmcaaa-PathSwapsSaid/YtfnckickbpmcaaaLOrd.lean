/- The order of paths, as a plain function: what path.Order and the reference answer; no condition. -/
import Derived.Test.YtfnckickbpmcaaaPx0
import Derived.Test.YtfnckickbpmcaaaPx7
import Derived.Test.YtfnckickbpmcaaaLPath
namespace Go.Proofs.Ytfnckickbpmcaaa.L
open Go Go.RowKit Go.Proofs.Ytfnckickbpmcaaa.P Go.Proofs.YtfnckickbpmcaaaW.PrintWords Go.Proofs.YtfnckickbpmcaaaW.PrintLast

/-- Two numbers' order. -/
def cmpI (a b : Int) : Int := if a < b then -1 else if b < a then 1 else 0
/-- Two texts' order. -/
def cmpB (a b : List UInt8) : Int := if Op.bytesLess a b = true then -1 else if Op.bytesLess b a = true then 1 else 0
def orI (a b : Int) : Int := if a = 0 then b else a

theorem bytesLess_irrefl : ∀ a : List UInt8, Op.bytesLess a a = false
  | [] => rfl
  | c :: r => by unfold Op.bytesLess; simp [bytesLess_irrefl r]
theorem bytesLess_cons (a b : UInt8) (r s : List UInt8) : Op.bytesLess (a :: r) (b :: s) = (decide (a < b) || (a == b && Op.bytesLess r s)) := by
  rw [Op.bytesLess]
theorem bytesLess_asymm : ∀ {a b : List UInt8}, Op.bytesLess a b = true → Op.bytesLess b a = false
  | [], [], h => by cases h
  | [], _ :: _, _ => rfl
  | _ :: _, [], h => by cases h
  | a :: r, b :: s, h => by
    rw [bytesLess_cons] at h ⊢
    simp only [Bool.or_eq_true, decide_eq_true_eq, Bool.and_eq_true, beq_iff_eq] at h
    rcases h with h | ⟨rfl, h⟩
    · have h1 : ¬ b < a := fun hc => by have := UInt8.lt_iff_toNat_lt.1 h; have := UInt8.lt_iff_toNat_lt.1 hc; omega
      have h2 : b ≠ a := fun hc => by subst hc; have := UInt8.lt_iff_toNat_lt.1 h; omega
      simp [h1, h2]
    · have h1 : ¬ a < a := fun hc => by have := UInt8.lt_iff_toNat_lt.1 hc; omega
      simp [h1, bytesLess_asymm h]
theorem bytesLess_total : ∀ {a b : List UInt8}, Op.bytesLess a b = false → Op.bytesLess b a = false → a = b
  | [], [], _, _ => rfl
  | [], _ :: _, h, _ => by cases h
  | _ :: _, [], _, h => by cases h
  | a :: r, b :: s, h, k => by
    rw [bytesLess_cons] at h k
    simp only [Bool.or_eq_false_iff, decide_eq_false_iff_not, Bool.and_eq_false_iff, beq_eq_false_iff_ne] at h k
    have hab : a = b := by
      apply UInt8.toNat_inj.1
      have h1 := h.1
      have h2 := k.1
      rw [UInt8.lt_iff_toNat_lt] at h1 h2
      omega
    subst hab
    have h1 : Op.bytesLess r s = false := by
      rcases h.2 with h | h
      · exact absurd rfl h
      · exact h
    have h2 : Op.bytesLess s r = false := by
      rcases k.2 with h | h
      · exact absurd rfl h
      · exact h
    rw [bytesLess_total h1 h2]
theorem bytesLess_trans : ∀ {a b c : List UInt8}, Op.bytesLess a b = true → Op.bytesLess b c = true → Op.bytesLess a c = true
  | [], [], _, h, _ => by cases h
  | [], _ :: _, [], _, h => by cases h
  | [], _ :: _, _ :: _, _, _ => rfl
  | _ :: _, [], _, h, _ => by cases h
  | _ :: _, _ :: _, [], _, h => by cases h
  | a :: r, b :: s, c :: t, h, k => by
    rw [bytesLess_cons] at h k ⊢
    simp only [Bool.or_eq_true, decide_eq_true_eq, Bool.and_eq_true, beq_iff_eq] at h k ⊢
    rcases h with h | ⟨rfl, h⟩
    · rcases k with k | ⟨rfl, k⟩
      · left; rw [UInt8.lt_iff_toNat_lt] at h k ⊢; omega
      · exact .inl h
    · rcases k with k | ⟨rfl, k⟩
      · exact .inl k
      · exact .inr ⟨rfl, bytesLess_trans h k⟩

/-- What an order's answer may be, and what it says: it is one of three, two ways it is opposed, and 0 just for what is equal. -/
theorem cmpI_cases (a b : Int) : (cmpI a b = -1 ∧ a < b) ∨ (cmpI a b = 0 ∧ a = b) ∨ (cmpI a b = 1 ∧ b < a) := by
  unfold cmpI
  by_cases h1 : a < b
  · rw [if_pos h1]; exact .inl ⟨rfl, h1⟩
  · rw [if_neg h1]
    by_cases h2 : b < a
    · rw [if_pos h2]; exact .inr (.inr ⟨rfl, h2⟩)
    · rw [if_neg h2]; exact .inr (.inl ⟨rfl, by omega⟩)
theorem cmpB_cases (a b : List UInt8) : (cmpB a b = -1 ∧ Op.bytesLess a b = true) ∨ (cmpB a b = 0 ∧ a = b) ∨ (cmpB a b = 1 ∧ Op.bytesLess b a = true) := by
  unfold cmpB
  by_cases h1 : Op.bytesLess a b = true
  · rw [if_pos h1]; exact .inl ⟨rfl, h1⟩
  · rw [if_neg h1]
    by_cases h2 : Op.bytesLess b a = true
    · rw [if_pos h2]; exact .inr (.inr ⟨rfl, h2⟩)
    · rw [if_neg h2]; exact .inr (.inl ⟨rfl, bytesLess_total (by simpa using h1) (by simpa using h2)⟩)
theorem cmpI_neg (a b : Int) : cmpI b a = -cmpI a b := by
  rcases cmpI_cases a b with ⟨h, k⟩ | ⟨h, k⟩ | ⟨h, k⟩ <;> rcases cmpI_cases b a with ⟨h', k'⟩ | ⟨h', k'⟩ | ⟨h', k'⟩ <;> rw [h, h'] <;> omega
theorem cmpB_neg (a b : List UInt8) : cmpB b a = -cmpB a b := by
  rcases cmpB_cases a b with ⟨h, k⟩ | ⟨h, k⟩ | ⟨h, k⟩ <;> rcases cmpB_cases b a with ⟨h', k'⟩ | ⟨h', k'⟩ | ⟨h', k'⟩ <;> rw [h, h'] <;> first
    | rfl
    | (rw [bytesLess_asymm k] at k'; cases k')
    | (subst k; rw [bytesLess_irrefl] at k'; cases k')
    | (subst k'; rw [bytesLess_irrefl] at k; cases k)

theorem compare_int (a b : Int) : cmp_Compare_int.f a b = some (cmpI a b) := by
  unfold cmp_Compare_int.f cmp_isNaN_int.f cmpI
  simp only [bne_self_eq_false, Option.bind_some, Bool.false_eq_true, if_false, gt_iff_lt]
  by_cases h1 : a < b
  · rw [if_pos h1, if_pos h1]
  · rw [if_neg h1, if_neg h1]
    by_cases h2 : b < a
    · rw [if_pos h2, if_pos h2]
    · rw [if_neg h2, if_neg h2]
theorem compare_string (a b : ByteArray) : cmp_Compare_string.f a b = some (cmpB (os a) (os b)) := by
  unfold cmp_Compare_string.f cmp_isNaN_string.f cmpB
  simp only [bne_self_eq_false, Option.bind_some, Bool.false_eq_true, if_false, toList_os]
  by_cases h1 : Op.bytesLess (os a) (os b) = true
  · rw [if_pos h1, if_pos h1]
  · rw [if_neg h1, if_neg h1]
    by_cases h2 : Op.bytesLess (os b) (os a) = true
    · rw [if_pos h2]
      have h3 : os a ≠ os b := fun h => by rw [h, bytesLess_irrefl] at h2; cases h2
      first | rw [if_pos h2] | rw [if_neg h3]
    · rw [if_neg h2]
      have h3 : os a = os b := bytesLess_total (by simpa using h1) (by simpa using h2)
      first | rw [if_neg h2] | rw [if_pos h3]
theorem or_three (a b c : Int) (k : Nat) (hk : 5 ≤ k) : cmp_Or_int.f k [a, b, c] = some (orI a (orI b c)) := by
  obtain ⟨k, rfl⟩ : ∃ m, k = m + 5 := ⟨k - 5, by omega⟩
  have w : ∀ i : Int, 0 ≤ i → i ≤ 3 → wrap64 (i + 1) = i + 1 := fun i h1 h2 => wrap64_id (by omega) (by omega)
  unfold cmp_Or_int.f orI
  simp only [cmp_Or_int.l0, w 0 (by omega) (by omega), List.length_cons, List.length_nil]
  have r0 : rd [a, b, c] 0 = a := rfl
  have r1 : rd [a, b, c] (0 + 1) = b := rfl
  have r2 : rd [a, b, c] (0 + 1 + 1) = c := rfl
  rw [r0, if_pos (by decide), if_pos (by decide), if_pos (by decide)]
  by_cases ha : a = 0
  · rw [if_pos ha, if_pos ha, w (0 + 1) (by omega) (by omega), r1, if_pos (by decide), if_pos (by decide), if_pos (by decide)]
    by_cases hb : b = 0
    · rw [if_pos hb, if_pos hb, w (0 + 1 + 1) (by omega) (by omega), r2, if_pos (by decide), if_pos (by decide), if_pos (by decide)]
      by_cases hc : c = 0
      · rw [if_pos hc, if_neg (by decide), hc]
      · rw [if_neg hc]
    · rw [if_neg hb, if_neg hb]
  · rw [if_neg ha, if_neg ha]

/-- The order of paths. -/
def ordP (k : Int) (a : List UInt8) (j : Int) (b : List UInt8) : Int := orI (cmpI k j) (orI (cmpI b.length a.length) (cmpB a b))
theorem path_order (k j : Int) (a b : ByteArray) (n : Nat) (hn : 5 ≤ n) : path_Order.f n k a j b = some (ordP k (os a) j (os b)) := by
  unfold path_Order.f ordP
  rw [compare_int, Option.bind_some, compare_int, Option.bind_some, compare_string, Option.bind_some, or_three _ _ _ n hn, Option.bind_some, size_os a, size_os b]
theorem ordP_one (k j : Int) (a b : List UInt8) : ordP k a j b = -1 ∨ ordP k a j b = 0 ∨ ordP k a j b = 1 := by
  unfold ordP orI
  have h1 := cmpI_cases k j
  have h2 := cmpI_cases b.length a.length
  have h3 := cmpB_cases a b
  split
  · split
    · rcases h3 with h | h | h
      · exact .inl h.1
      · exact .inr (.inl h.1)
      · exact .inr (.inr h.1)
    · rcases h2 with h | h | h
      · exact .inl h.1
      · exact .inr (.inl h.1)
      · exact .inr (.inr h.1)
  · rcases h1 with h | h | h
    · exact .inl h.1
    · exact .inr (.inl h.1)
    · exact .inr (.inr h.1)
theorem ordP_neg (k j : Int) (a b : List UInt8) : ordP j b k a = -ordP k a j b := by
  unfold ordP orI
  rw [cmpI_neg k j, cmpI_neg (b.length : Int) a.length, cmpB_neg a b]
  by_cases h1 : cmpI k j = 0
  · rw [h1]
    simp only [Int.neg_zero, if_true]
    by_cases h2 : cmpI (b.length : Int) a.length = 0
    · rw [h2]; simp
    · rw [if_neg (by omega), if_neg h2]
  · rw [if_neg (by omega), if_neg h1]
theorem ordP_zero (k j : Int) (a b : List UInt8) : ordP k a j b = 0 ↔ k = j ∧ a = b := by
  unfold ordP orI
  have h1 := cmpI_cases k j
  have h2 := cmpI_cases b.length a.length
  have h3 := cmpB_cases a b
  constructor
  · intro h
    by_cases e1 : cmpI k j = 0
    · rw [if_pos e1] at h
      by_cases e2 : cmpI (b.length : Int) a.length = 0
      · rw [if_pos e2] at h
        refine ⟨by omega, ?_⟩
        rcases h3 with h3 | h3 | h3
        · omega
        · exact h3.2
        · omega
      · rw [if_neg e2] at h; exact absurd h e2
    · rw [if_neg e1] at h; exact absurd h e1
  · rintro ⟨rfl, rfl⟩
    have e1 : cmpI k k = 0 := by rcases h1 with h | h | h <;> omega
    have e2 : cmpI (a.length : Int) a.length = 0 := by rcases h2 with h | h | h <;> omega
    rw [if_pos e1, if_pos e2]
    unfold cmpB
    rw [bytesLess_irrefl]
    rfl
/-- From one on to the next. -/
theorem ordP_trans {k j i : Int} {a b c : List UInt8} (h1 : ordP k a j b ≤ 0) (h2 : ordP j b i c ≤ 0) : ordP k a i c ≤ 0 ∧ (ordP k a j b < 0 → ordP k a i c < 0) ∧ (ordP j b i c < 0 → ordP k a i c < 0) := by
  have key : ∀ {x y : Int} {u v : List UInt8}, ordP x u y v ≤ 0 ↔ x < y ∨ x = y ∧ (v.length < u.length ∨ v.length = u.length ∧ (Op.bytesLess u v = true ∨ u = v)) := by
    intro x y u v
    unfold ordP orI
    have h1 := cmpI_cases x y
    have h2 := cmpI_cases v.length u.length
    have h3 := cmpB_cases u v
    by_cases e1 : cmpI x y = 0
    · rw [if_pos e1]
      by_cases e2 : cmpI (v.length : Int) u.length = 0
      · rw [if_pos e2]
        constructor
        · intro h
          refine .inr ⟨by omega, .inr ⟨by omega, ?_⟩⟩
          rcases h3 with h3 | h3 | h3
          · exact .inl h3.2
          · exact .inr h3.2
          · omega
        · intro h
          rcases h3 with h3 | h3 | h3
          · omega
          · omega
          · exfalso
            rcases h with h | ⟨_, h | ⟨_, h | h⟩⟩
            · omega
            · omega
            · rw [bytesLess_asymm h] at h3; cases h3.2
            · rw [h, bytesLess_irrefl] at h3; cases h3.2
      · rw [if_neg e2]
        constructor
        · intro h; exact .inr ⟨by omega, .inl (by omega)⟩
        · intro h
          rcases h with h | ⟨_, h | ⟨h, _⟩⟩ <;> omega
    · rw [if_neg e1]
      constructor
      · intro h; left; omega
      · intro h
        rcases h with h | ⟨h, _⟩ <;> omega
  have lt : ∀ {x y : Int} {u v : List UInt8}, ordP x u y v < 0 ↔ ordP x u y v ≤ 0 ∧ ¬ (x = y ∧ u = v) := by
    intro x y u v
    rw [← ordP_zero]
    omega
  have tr : ordP k a i c ≤ 0 := by
    rw [key] at h1 h2 ⊢
    rcases h1 with h1 | ⟨rfl, h1⟩
    · left
      rcases h2 with h2 | ⟨rfl, _⟩ <;> omega
    · rcases h2 with h2 | ⟨rfl, h2⟩
      · exact .inl h2
      · refine .inr ⟨rfl, ?_⟩
        rcases h1 with h1 | ⟨h1, h1'⟩
        · left
          rcases h2 with h2 | ⟨h2, _⟩ <;> omega
        · rcases h2 with h2 | ⟨h2, h2'⟩
          · left; omega
          · refine .inr ⟨by omega, ?_⟩
            rcases h1' with h1' | rfl
            · rcases h2' with h2' | rfl
              · exact .inl (bytesLess_trans h1' h2')
              · exact .inl h1'
            · exact h2'
  refine ⟨tr, fun hl => ?_, fun hl => ?_⟩
  · rw [lt]
    refine ⟨tr, ?_⟩
    rintro ⟨rfl, rfl⟩
    have := ordP_neg k j a b
    omega
  · rw [lt]
    refine ⟨tr, ?_⟩
    rintro ⟨rfl, rfl⟩
    have := ordP_neg k j a b
    omega
end Go.Proofs.Ytfnckickbpmcaaa.L
