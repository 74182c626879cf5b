/- The reference's order of patterns, what they meet in, and the host of a text, as the plain functions. -/
import Derived.Test.YtjfjmniegceejaaDoorPx0
import Derived.Test.YtjfjmniegceejaaDoorPx14
import Derived.Test.YtjfjmniegceejaaDoorPx18
import Derived.Test.YtjfjmniegceejaaDoorLHostBest
import Derived.Test.YtjfjmniegceejaaDoorLHostRef
namespace Go.Proofs.YtjfjmniegceejaaDoor.L
open Go Go.RowKit Go.Proofs.YtjfjmniegceejaaDoor.P Go.Proofs.YtjfjmniegceejaaDoorW.PrintWords Go.Proofs.YtjfjmniegceejaaDoorW.PrintLast
theorem less_lex : ∀ a b : List UInt8, Op.bytesLess a b = decide (lexI (nums a) (nums b) < 0)
  | [], [] => rfl
  | [], _ :: _ => rfl
  | _ :: _, [] => rfl
  | a :: x, b :: y => by
    have e1 : a < b ↔ (a.toNat : Int) < (b.toNat : Int) := by rw [UInt8.lt_iff_toNat_lt]; omega
    have e2 : a = b ↔ (a.toNat : Int) = (b.toNat : Int) := ⟨fun h => by rw [h], fun h => UInt8.toNat_inj.1 (by omega)⟩
    rw [Op.bytesLess, less_lex x y, show nums (a :: x) = (a.toNat : Int) :: nums x from rfl, show nums (b :: y) = (b.toNat : Int) :: nums y from rfl, lexI]
    by_cases h : a < b
    · rw [if_pos (e1.1 h), decide_eq_true h]; rfl
    · rw [if_neg (fun h2 => h (e1.2 h2)), decide_eq_false h, Bool.false_or]
      by_cases h3 : a = b
      · have := e2.1 h3
        rw [if_neg (by omega), show (a == b) = true from beq_iff_eq.2 h3, Bool.true_and]
      · have h4 : (b.toNat : Int) < (a.toNat : Int) := by
          have h5 : ¬ (a.toNat : Int) < (b.toNat : Int) := fun h2 => h (e1.2 h2)
          have h6 : ¬ (a.toNat : Int) = (b.toNat : Int) := fun h2 => h3 (e2.2 h2)
          omega
        rw [if_pos h4, show (a == b) = false from beq_eq_false_iff_ne.2 h3, Bool.false_and]; rfl
noncomputable def kindH (p : List UInt8) : Int := if p = [] then 2 else if wide p = true then 1 else 0
theorem kind_r (s : ByteArray) (hs : (os s).length ≤ 1000) : tollref02_kind.f s = some (kindH (os s)) := by
  obtain ⟨t, h1, _⟩ := wide_r s hs
  unfold tollref02_kind.f kindH
  rw [toList_os, h1, Option.bind_some]
  by_cases c : os s = []
  · rw [if_pos c, if_pos c]
  · rw [if_neg c, if_neg c]
    cases wide (os s) <;> rfl
theorem rk_kind (p : List UInt8) : rk p = (kindH p, if p ≠ [] ∧ wide p = true then -(p.length : Int) else 0) := by
  unfold rk kindH
  by_cases c : p = []
  · rw [if_pos c, if_pos c, if_neg (fun h => h.1 c)]
  · rw [if_neg c, if_neg c]
    cases hw : wide p with
    | true => rw [if_pos rfl, if_pos rfl, if_pos ⟨c, rfl⟩]
    | false => rw [if_neg (by decide), if_neg (by decide), if_neg (fun h => by cases h.2)]
theorem order_r (a b : ByteArray) (ha : (os a).length ≤ 1000) (hb : (os b).length ≤ 1000) (k : Nat) (hk : 1 ≤ k) : tollref02_Order.f k a b = some (lexI (keyH (os a)) (keyH (os b))) := by
  have hz := size_os a
  have hz2 := size_os b
  obtain ⟨k, rfl⟩ : ∃ m, k = m + 1 := ⟨k - 1, by omega⟩
  have fin : (if (Op.bytesLess (os a) (os b)) = true then some (-1) else if os a = os b then some (0 : Int) else some 1) = some (lexI (nums (os a)) (nums (os b))) := by
    rw [less_lex]
    rcases lexI_range (nums (os a)) (nums (os b)) with e | e | e
    · rw [e]; rfl
    · rw [e, nums_inj (lexI_zero _ _ e)]; simp
    · rw [e, if_neg (by decide), if_neg]
      intro h
      rw [h, lexI_refl] at e
      cases e
  unfold tollref02_Order.f keyH
  rw [kind_r a ha, kind_r b hb, Option.bind_some, Option.bind_some, Option.bind_some, Option.bind_some, Option.bind_some, rk_kind, rk_kind, lexI]
  dsimp only
  by_cases c : kindH (os a) = kindH (os b)
  · have n1 : ¬ kindH (os a) < kindH (os b) := by omega
    have n2 : ¬ kindH (os b) < kindH (os a) := by omega
    rw [if_pos c, if_neg n1, if_neg n2, lexI, tollref02_Order.j0, tollref02_Order.j0, toList_os, toList_os]
    by_cases c1 : kindH (os a) = 1
    · have hw : ∀ {p}, kindH p = 1 → p ≠ [] ∧ wide p = true := fun {p} h => by
        unfold kindH at h
        by_cases e : p = []
        · rw [if_pos e] at h; cases h
        · rw [if_neg e] at h
          cases hw : wide p with
          | true => exact ⟨e, rfl⟩
          | false => rw [hw] at h; cases h
      rw [if_pos c1, if_pos (hw c1), if_pos (hw (c.symm.trans c1))]
      by_cases c2 : (os a).length = (os b).length
      · rw [show ((a.size : Int) != (b.size : Int)) = false from by rw [hz, hz2, c2, bne_self_eq_false], if_neg (by decide), if_neg (show ¬ -((os a).length : Int) < -((os b).length : Int) by omega), if_neg (show ¬ -((os b).length : Int) < -((os a).length : Int) by omega)]
        exact fin
      · rw [show ((a.size : Int) != (b.size : Int)) = true from bne_iff_ne.2 (by omega), if_pos rfl]
        by_cases c3 : (a.size : Int) > (b.size : Int)
        · rw [if_pos c3, if_pos (by omega)]
        · rw [if_neg c3, if_neg (by omega), if_pos (by omega)]
    · have hw : ∀ {p}, kindH p ≠ 1 → ¬ (p ≠ [] ∧ wide p = true) := fun {p} h e => h (by unfold kindH; rw [if_neg e.1, if_pos e.2])
      rw [if_neg c1, if_neg (hw c1), if_neg (hw (fun e => c1 (c.trans e))), if_neg (by decide), if_neg (show ¬ (0 : Int) < 0 by decide), if_neg (show ¬ (0 : Int) < 0 by decide)]
      exact fin
  · rw [if_neg c]
    by_cases c1 : kindH (os a) < kindH (os b)
    · rw [if_pos c1, if_pos c1]
    · have n2 : kindH (os b) < kindH (os a) := by omega
      rw [if_neg c1, if_neg c1, if_pos n2]
theorem bestr_l1 (l : List ByteArray) (hl : SmallB 100 l) (h : ByteArray) (hh : (os h).length ≤ 100) (i : Nat) (hi : i < l.length) : ∀ (c j k : Nat) (b : Bool), l.length - j = c → j ≤ l.length → 4000 ≤ k →
    ∃ b', tollref02_Best.l1 (c + 1 + k) l h (i : Int) b (j : Int) = (if b' = true then some ((i : Int), true) else tollref02_Best.l0 k l h ((i + 1 : Nat) : Int)) ∧
      (b' = true ↔ b = true ∧ ∀ m (hm : m < l.length), j ≤ m → holdB h (l[m]'hm) = true → ¬ ordB (l[m]'hm) (l[i]'hi) < 0 ∧ (m < i → ordB (l[m]'hm) (l[i]'hi) ≠ 0)) := by
  have hl1 := hl.1
  intro c
  induction c with
  | zero =>
    intro j k b h1 h2 h3
    obtain rfl : j = l.length := by omega
    refine ⟨b, ?_, ⟨fun e => ⟨e, fun m hm hjm => by omega⟩, fun e => e.1⟩⟩
    rw [show 0 + 1 + k = k + 1 by omega, tollref02_Best.l1, if_neg (by omega), wrapN (by omega)]
  | succ c ih =>
    intro j k b h1 h2 h3
    have hj : j < l.length := by omega
    have hx := hl.2 _ (List.getElem_mem hj)
    have hy := hl.2 _ (List.getElem_mem hi)
    have more : ∀ (P : Prop) (b1 b' : Bool), (b' = true ↔ b1 = true ∧ ∀ m (hm : m < l.length), j + 1 ≤ m → holdB h (l[m]'hm) = true → ¬ ordB (l[m]'hm) (l[i]'hi) < 0 ∧ (m < i → ordB (l[m]'hm) (l[i]'hi) ≠ 0)) →
        ((b1 = true) ↔ b = true ∧ (holdB h (l[j]'hj) = true → ¬ ordB (l[j]'hj) (l[i]'hi) < 0 ∧ (j < i → ordB (l[j]'hj) (l[i]'hi) ≠ 0))) →
        (b' = true ↔ b = true ∧ ∀ m (hm : m < l.length), j ≤ m → holdB h (l[m]'hm) = true → ¬ ordB (l[m]'hm) (l[i]'hi) < 0 ∧ (m < i → ordB (l[m]'hm) (l[i]'hi) ≠ 0)) := fun _ b1 b' e1 e2 => by
      rw [e1, e2]
      constructor
      · rintro ⟨⟨g1, g2⟩, g3⟩
        refine ⟨g1, fun m hm hjm => ?_⟩
        rcases Nat.lt_or_ge j m with d | d
        · exact g3 m hm (by omega)
        · obtain rfl : m = j := by omega
          exact g2
      · rintro ⟨g1, g2⟩
        exact ⟨⟨g1, g2 j hj (Nat.le_refl _)⟩, fun m hm hjm => g2 m hm (by omega)⟩
    have er : tollref02_Order.f (c + 1 + k) (l[j]'hj) (l[i]'hi) = some (ordB (l[j]'hj) (l[i]'hi)) := order_r _ _ (by omega) (by omega) _ (by omega)
    rw [show c + 1 + 1 + k = (c + 1 + k) + 1 by omega, tollref02_Best.l1, if_pos (by omega), if_pos (by omega), rdB l j hj, rdB l i hi, holds_r _ h (by omega) (by omega) _ (by omega), Option.bind_some, wrapN (by omega), er, Option.bind_some, Option.bind_some]
    cases hb : holdsH (os (l[j]'hj)) (os h) with
    | false =>
      obtain ⟨b', g1, g2⟩ := ih (j + 1) k b (by omega) (by omega) h3
      have hb' : holdB h (l[j]'hj) = false := hb
      exact ⟨b', by rw [if_neg (by decide)]; exact g1, more True b b' g2 (by rw [hb']; simp)⟩
    | true =>
      have hb' : holdB h (l[j]'hj) = true := hb
      rw [if_pos rfl, if_pos (by omega), if_pos (by omega)]
      obtain ⟨b0, g1, g2⟩ := ih (j + 1) k false (by omega) (by omega) h3
      obtain ⟨b1, k1, k2⟩ := ih (j + 1) k b (by omega) (by omega) h3
      by_cases c1 : ordB (l[j]'hj) (l[i]'hi) < 0
      · rw [if_pos c1]
        exact ⟨b0, g1, more True false b0 g2 (by rw [hb']; simp [c1])⟩
      · rw [if_neg c1]
        by_cases c2 : j < i
        · rw [if_pos (by omega)]
          by_cases c3 : ordB (l[j]'hj) (l[i]'hi) = 0
          · rw [if_pos c3]
            exact ⟨b0, g1, more True false b0 g2 (by rw [hb']; simp [c2, c3])⟩
          · rw [if_neg c3]
            exact ⟨b1, k1, more True b b1 k2 (by rw [hb']; simp [c1, c3])⟩
        · rw [if_neg (by omega)]
          exact ⟨b1, k1, more True b b1 k2 (by rw [hb']; simp [c1, c2])⟩
theorem bestr_l0 (l : List ByteArray) (hl : SmallB 12 l) (h : ByteArray) (hh : (os h).length ≤ 100) {o : Option Nat} (ho : IsOf (holdB h) ordB l o) : ∀ (c i k : Nat), l.length - i = c → i ≤ l.length → c * (l.length + 2) + 4100 ≤ k → (∀ f, o = some f → i ≤ f) → tollref02_Best.l0 k l h (i : Int) = some (ansB o) := by
  have hl1 := hl.1
  intro c
  induction c with
  | zero =>
    intro i k h1 h2 h3 h4
    obtain ⟨k, rfl⟩ : ∃ m, k = m + 1 := ⟨k - 1, by omega⟩
    rw [tollref02_Best.l0, if_neg (by omega)]
    cases o with
    | none => rfl
    | some f =>
      have hf : f < l.length := by obtain ⟨x, h, _⟩ := ho; exact getE_len h
      have := h4 f rfl; omega
  | succ c ih =>
    intro i k h1 h2 h3 h4
    rw [Nat.succ_mul] at h3
    have hi : i < l.length := by omega
    have hy := hl.2 _ (List.getElem_mem hi)
    obtain ⟨k, rfl⟩ : ∃ m, k = (l.length + 1 + m) + 1 := ⟨k - l.length - 2, by omega⟩
    rw [tollref02_Best.l0, if_pos (by omega), if_pos (by omega), rdB l i hi, holds_r _ h (by omega) (by omega) _ (by omega), Option.bind_some]
    obtain ⟨b', g1, g2⟩ := bestr_l1 l ⟨by omega, hl.2⟩ h hh i hi l.length 0 k (holdsH (os (l[i]'hi)) (os h)) (by omega) (by omega) (by omega)
    refine Eq.trans g1 ?_
    cases hb : b' with
    | true =>
      obtain ⟨q1, q2⟩ := g2.1 hb
      have : o = some i := by
        refine ho.unique ordB_cmp (show IsOf (holdB h) ordB l (some i) from ⟨l[i]'hi, List.getElem?_eq_getElem hi, q1, fun y hy hh => ?_, fun j y hj hy hh => ?_⟩)
        · obtain ⟨m, hm, rfl⟩ := List.getElem_of_mem hy
          exact ordB_cmp.not (q2 m hm (by omega) hh).1
        · obtain ⟨hm, rfl⟩ := List.getElem?_eq_some_iff.1 hy
          have h5 := q2 j hm (by omega) hh
          have h6 := ordB_cmp.anti (l[i]'hi) (l[j]'hm)
          have h7 := h5.2 hj
          have h8 := h5.1
          omega
      rw [this, if_pos rfl]; rfl
    | false =>
      rw [if_neg (by decide)]
      refine ih (i + 1) k (by omega) (by omega) (by omega) (fun f hf => ?_)
      have h5 := h4 f hf
      rcases Nat.lt_or_ge i f with d | d
      · omega
      · obtain rfl : f = i := by omega
        rw [hf] at ho
        obtain ⟨x, e1, e2, e3, e4⟩ := ho
        obtain ⟨_, rfl⟩ := List.getElem?_eq_some_iff.1 e1
        have : b' = true := g2.2 ⟨e2, fun m hm _ hh => by
          have h6 := e3 _ (List.getElem_mem hm) hh
          have h7 := ordB_cmp.anti (l[f]'hi) (l[m]'hm)
          refine ⟨by omega, fun hmf => ?_⟩
          have h8 := e4 m _ hmf (List.getElem?_eq_getElem hm) hh
          omega⟩
        rw [this] at hb; cases hb
theorem best_r {l : List ByteArray} (hl : SmallB 12 l) {h : ByteArray} (hh : (os h).length ≤ 100) {o : Option Nat} (ho : IsOf (holdB h) ordB l o) (k : Nat) (hk : 5000 ≤ k) : tollref02_Best.f k l h = some (ansB o) :=
  bestr_l0 l hl h hh ho l.length 0 k (by omega) (by omega) (by
    have h1 := hl.1
    have : l.length * (l.length + 2) ≤ 12 * 14 := Nat.mul_le_mul h1 (by omega)
    omega) (fun f _ => by omega)
end Go.Proofs.YtjfjmniegceejaaDoor.L
