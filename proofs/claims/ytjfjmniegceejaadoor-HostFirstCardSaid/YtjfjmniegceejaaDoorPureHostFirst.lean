/- The pure statement of HostFirst; no condition beyond the statement's. -/
import Derived.Test.YtjfjmniegceejaaDoorPx0
import Derived.Test.YtjfjmniegceejaaDoorPx20
import Derived.Test.YtjfjmniegceejaaDoorLHostBest
namespace Go.Proofs.YtjfjmniegceejaaDoor.Pure
open Go Go.RowKit Go.Proofs.YtjfjmniegceejaaDoor.P Go.Proofs.YtjfjmniegceejaaDoor.L Go.Proofs.YtjfjmniegceejaaDoorW.PrintWords Go.Proofs.YtjfjmniegceejaaDoorW.PrintLast
theorem hf_loop {l : List ByteArray} (hl : SmallB 12 l) (h m : ByteArray) (hh : (os h).length ≤ 100) {o : Option Nat} (ho : IsOf (holdB h) ordB l o) : ∀ (c i k : Nat), l.length - i = c → i ≤ l.length → 200 ≤ k →
    tolllaw02_HostFirst.l0 (c + k) l h m (ansB o).1 (ansB o).2 (i : Int) = tolllaw02_HostFirst.l0 k l h m (ansB o).1 (ansB o).2 (l.length : Int) := by
  have hl1 := hl.1
  intro c
  induction c with
  | zero =>
    intro i k h1 h2 h3
    obtain rfl : i = l.length := by omega
    rw [Nat.zero_add]
  | succ c ih =>
    intro i k h1 h2 h3
    have hi : i < l.length := by omega
    have hx := hl.2 _ (List.getElem_mem hi)
    rw [show c + 1 + k = (c + k) + 1 by omega, tolllaw02_HostFirst.l0, if_pos (by omega), if_pos (by omega), rdB l i hi, holds_h _ h (by omega) (by omega) _ (by omega), Option.bind_some, wrapN (by omega), ih (i + 1) k (by omega) (by omega) h3]
    cases hb : holdsH (os (l[i]'hi)) (os h) with
    | false => rw [if_neg (by decide)]
    | true =>
      obtain ⟨f, x, rfl, h4, h5, h6⟩ := ho.some_of (List.getElem_mem hi) hb
      have hf := getE_len h4
      obtain ⟨_, rfl⟩ := List.getElem?_eq_some_iff.1 h4
      have hk := h6 _ (List.getElem_mem hi) hb
      have hy := hl.2 _ (List.getElem_mem hf)
      have ha := ordB_cmp.anti (l[f]'hf) (l[i]'hi)
      rw [if_pos rfl, show ansB (some f) = ((f : Int), true) from rfl, if_pos rfl, if_neg (by omega), if_neg (by omega), if_pos (by omega), if_pos (by omega), rdB l f hf, order_b _ _ hx hy _ (by omega), Option.bind_some, if_neg (show ¬ ordB (l[i]'hi) (l[f]'hf) < 0 by omega)]
theorem hf_j1 {l : List ByteArray} (hl : SmallB 12 l) (h m : ByteArray) (hh : (os h).length ≤ 100) (hm : (os m).length ≤ 100) {o : Option Nat} (ho : IsOf (holdB h) ordB l o) (k : Nat) (hk : 2000 ≤ k) : tolllaw02_HostFirst.j1 k l h m (ansB o).1 (ansB o).2 false = some true := by
  have hl1 := hl.1
  obtain ⟨k, rfl⟩ : ∃ i, k = i + 1 := ⟨k - 1, by omega⟩
  have hl' : SmallB 100 (l ++ [m]) := ⟨by rw [List.length_append, List.length_singleton]; omega, fun x hx => by
    rcases List.mem_append.1 hx with e | e
    · exact hl.2 x e
    · rw [List.mem_singleton.1 e]; exact hm⟩
  rw [tolllaw02_HostFirst.j1, if_neg (by decide), Option.bind_some, if_pos (by rw [List.length_nil]; omega), Option.bind_some, List.nil_append, if_pos (by omega)]
  cases hb : holdsH (os m) (os h) with
  | false =>
    rw [best_is hl' hh (by omega) (ho.no hb), Option.bind_some, holds_h m h (by omega) (by omega) _ (by omega), Option.bind_some, hb, if_neg (by decide), if_pos rfl, if_pos (beq_self_eq_true _), host_awake _ (by omega)]; rfl
  | true =>
    obtain ⟨o', _, h2⟩ := best_p _ hl' h hh k (by omega)
    rw [h2, Option.bind_some, holds_h m h (by omega) (by omega) _ (by omega), Option.bind_some, hb, if_pos rfl, host_awake _ (by omega)]; rfl
theorem HostFirst : tolllaw02_HostFirst.Pure := by
  intro l0 h0 m0 _ _ _
  refine ⟨9000, ?_⟩
  have hl := fewB_small l0
  have hh := few_len h0
  have hm := few_len m0
  unfold tolllaw02_HostFirst.f
  rw [fewB_eq _ _ (by decide), Option.bind_some, few_eq, Option.bind_some, few_eq, Option.bind_some]
  generalize fewB l0 = l at *
  generalize few h0 = h at *
  generalize few m0 = m at *
  have hl1 := hl.1
  obtain ⟨o, b1, e1⟩ := best_p l ⟨by omega, hl.2⟩ h hh 9000 (by decide)
  rw [e1, Option.bind_some, show (9000 : Nat) = l.length + (9000 - l.length) by omega]
  have g := hf_loop hl h m hh b1 l.length 0 (9000 - l.length) (by omega) (by omega) (by omega)
  refine Eq.trans g ?_
  have hj := hf_j1 hl h m hh hm b1 (8999 - l.length) (by omega)
  rw [show 9000 - l.length = (8999 - l.length) + 1 by omega, tolllaw02_HostFirst.l0, if_neg (by omega)]
  cases o with
  | none => exact hj
  | some f =>
    have hf : f < l.length := by obtain ⟨x, h, _⟩ := b1; exact getE_len h
    have hx := hl.2 _ (List.getElem_mem hf)
    have hb : holdsH (os (l[f]'hf)) (os h) = true := by
      obtain ⟨x, h1, h2, _⟩ := b1
      obtain ⟨_, rfl⟩ := List.getElem?_eq_some_iff.1 h1
      exact h2
    rw [show ansB (some f) = ((f : Int), true) from rfl] at hj ⊢
    rw [if_pos rfl, if_neg (by omega), if_neg (by omega), if_pos (by omega), if_pos (by omega), rdB l f hf, holds_h _ h (by omega) (by omega) _ (by omega), Option.bind_some, hb]
    exact hj
end Go.Proofs.YtjfjmniegceejaaDoor.Pure
