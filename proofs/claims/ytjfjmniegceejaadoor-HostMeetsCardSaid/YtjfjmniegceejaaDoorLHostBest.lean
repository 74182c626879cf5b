/- Which pattern is best for a host, as a plain function. -/
import Derived.Test.YtjfjmniegceejaaDoorPx0
import Derived.Test.YtjfjmniegceejaaDoorPx14
import Derived.Test.YtjfjmniegceejaaDoorPx17
import Derived.Test.YtjfjmniegceejaaDoorLBest
namespace Go.Proofs.YtjfjmniegceejaaDoor.L
open Go Go.RowKit Go.Proofs.YtjfjmniegceejaaDoor.P Go.Proofs.YtjfjmniegceejaaDoorW.PrintWords Go.Proofs.YtjfjmniegceejaaDoorW.PrintLast
noncomputable def ordB (a b : ByteArray) : Int := lexI (keyH (os a)) (keyH (os b))
theorem ordB_cmp : Cmp ordB := ⟨fun _ _ => lexI_anti _ _, fun h k => lexI_le h k, fun h k => lexI_lt_le h k⟩
theorem order_b (a b : ByteArray) (ha : (os a).length ≤ 100) (hb : (os b).length ≤ 100) (k : Nat) (hk : 3 ≤ k) : host_Order.f k a b = some (ordB a b) := order_h a b (by omega) (by omega) k hk
noncomputable def holdB (h p : ByteArray) : Bool := holdsH (os p) (os h)
noncomputable def SmallB (n : Nat) (l : List ByteArray) : Prop := l.length ≤ n ∧ ∀ x ∈ l, (os x).length ≤ 100
noncomputable def fewB (l : List ByteArray) : List ByteArray := (l.take 12).map few
theorem fewB_loop (l : List ByteArray) : ∀ (n i k : Nat) (acc : List ByteArray), 12 - i ≤ n → i ≤ 12 → i ≤ l.length → acc.length ≤ 1000 + i → n + 2 ≤ k → tolllaw02_few.l0 k l acc (i : Int) = some (acc ++ ((l.drop i).take (12 - i)).map few) := by
  intro n
  induction n with
  | zero =>
    intro i k acc h1 h2 h3 h4 h5
    obtain ⟨k, rfl⟩ : ∃ m, k = m + 1 := ⟨k - 1, by omega⟩
    obtain rfl : i = 12 := by omega
    rw [tolllaw02_few.l0]
    by_cases c : (12 : Nat) < l.length
    · rw [if_pos (by omega), if_neg (by omega)]; simp
    · rw [if_neg (by omega)]; simp
  | succ n ih =>
    intro i k acc h1 h2 h3 h4 h5
    obtain ⟨k, rfl⟩ : ∃ m, k = m + 1 := ⟨k - 1, by omega⟩
    by_cases c : i < l.length
    · by_cases c2 : i < 12
      · rw [tolllaw02_few.l0, if_pos (by omega), if_pos (by omega), if_pos (by omega), rdB l i c, few_eq, Option.bind_some, if_pos (by omega), wrapN (by omega), ih (i + 1) k _ (by omega) (by omega) (by omega) (by rw [List.length_append, List.length_singleton]; omega) (by omega), List.drop_eq_getElem_cons c, show 12 - i = (12 - (i + 1)) + 1 by omega, List.take_succ_cons, List.map_cons, List.append_assoc]; rfl
      · obtain rfl : i = 12 := by omega
        rw [tolllaw02_few.l0, if_pos (by omega), if_neg (by omega)]; simp
    · obtain rfl : i = l.length := by omega
      rw [tolllaw02_few.l0, if_neg (by omega)]; simp
theorem fewB_eq (l : List ByteArray) (k : Nat) (hk : 20 ≤ k) : tolllaw02_few.f k l = some (fewB l) := fewB_loop l 12 0 k [] (by omega) (by omega) (by omega) (by simp) (by omega)
theorem fewB_small (l : List ByteArray) : SmallB 12 (fewB l) := ⟨by unfold fewB; rw [List.length_map, List.length_take]; omega, fun x hx => by
  obtain ⟨y, _, rfl⟩ := List.mem_map.1 hx
  exact few_len y⟩
noncomputable def ansB : Option Nat → Int × Bool
  | none => (0, false)
  | some f => ((f : Int), true)
theorem best_loop (l : List ByteArray) (hl : SmallB 100 l) (h : ByteArray) (hh : (os h).length ≤ 100) : ∀ (n i k : Nat) (o : Option Nat), l.length - i = n → i ≤ l.length → n + 10 ≤ k → IsOf (holdB h) ordB (l.take i) o →
    ∃ o', IsOf (holdB h) ordB l o' ∧ host_Best.l0 k l h (ansB o).1 (ansB o).2 l (l.length : Int) (i : Int) = some (ansB o') := by
  have hl1 := hl.1
  intro n
  induction n with
  | zero =>
    intro i k o h1 h2 h3 h4
    obtain ⟨k, rfl⟩ : ∃ m, k = m + 1 := ⟨k - 1, by omega⟩
    obtain rfl : i = l.length := by omega
    rw [List.take_length] at h4
    exact ⟨o, h4, by rw [host_Best.l0, if_neg (by omega)]⟩
  | succ n ih =>
    intro i k o h1 h2 h3 h4
    obtain ⟨k, rfl⟩ : ∃ m, k = m + 1 := ⟨k - 1, by omega⟩
    have hi : i < l.length := by omega
    have hx := hl.2 _ (List.getElem_mem hi)
    have et : l.take (i + 1) = l.take i ++ [l[i]'hi] := by rw [List.take_append_getElem hi]
    have hlen : (l.take i).length = i := by rw [List.length_take]; omega
    have step := fun (o : Option Nat) (h : IsOf (holdB h) ordB (l.take i ++ [l[i]'hi]) o) => ih (i + 1) k o (by omega) (by omega) (by omega) (by rw [et]; exact h)
    rw [host_Best.l0, if_pos (by omega), if_pos (by omega), if_pos (by omega), rdB l i hi, holds_h _ h (by omega) (by omega) k (by omega), Option.bind_some, wrapN (by omega)]
    cases hb : holdsH (os (l[i]'hi)) (os h) with
    | false => rw [if_neg (by decide)]; exact step o (h4.no hb)
    | true =>
      rw [if_pos rfl]
      cases o with
      | none =>
        rw [show ansB none = (0, false) from rfl, if_neg (by decide)]
        have := step (some (l.take i).length) (h4.one ordB_cmp hb)
        rw [hlen] at this
        exact this
      | some f =>
        obtain ⟨y, hy, _⟩ := id h4
        have hf := getE_len hy
        rw [hlen] at hf
        have hy' : l[f]? = some y := by rw [List.getElem?_take_of_lt hf] at hy; exact hy
        obtain ⟨hfl, rfl⟩ := List.getElem?_eq_some_iff.1 hy'
        have hys := hl.2 _ (List.getElem_mem hfl)
        rw [show ansB (some f) = ((f : Int), true) from rfl, if_pos rfl, if_pos (by omega), if_pos (by omega), rdB l f hfl, order_b _ _ hx hys k (by omega), Option.bind_some]
        by_cases hk : ordB (l[i]'hi) (l[f]'hfl) < 0
        · rw [if_pos hk]
          have := step (some (l.take i).length) (h4.less ordB_cmp hy hb hk)
          rw [hlen] at this
          exact this
        · rw [if_neg hk]
          exact step (some f) (h4.more hy (ordB_cmp.not hk))
theorem best_p (l : List ByteArray) (hl : SmallB 100 l) (h : ByteArray) (hh : (os h).length ≤ 100) (k : Nat) (hk : 200 ≤ k) : ∃ o, IsOf (holdB h) ordB l o ∧ host_Best.f k l h = some (ansB o) := by
  have hl1 := hl.1
  exact best_loop l hl h hh l.length 0 k none (by omega) (by omega) (by omega) (by rw [List.take_zero]; exact IsOf.nil)
theorem best_is {l : List ByteArray} (hl : SmallB 100 l) {h : ByteArray} (hh : (os h).length ≤ 100) {k : Nat} (hk : 200 ≤ k) {o : Option Nat} (ho : IsOf (holdB h) ordB l o) : host_Best.f k l h = some (ansB o) := by
  obtain ⟨o', h1, h2⟩ := best_p l hl h hh k hk
  rw [ho.unique ordB_cmp h1]; exact h2
end Go.Proofs.YtjfjmniegceejaaDoor.L
