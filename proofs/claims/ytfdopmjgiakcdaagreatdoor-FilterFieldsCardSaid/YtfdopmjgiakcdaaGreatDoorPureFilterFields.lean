/- FilterFields: what filters make of the fields that they name; no condition beyond the statement's. -/
import Derived.Test.YtfdopmjgiakcdaaGreatDoorKFilterFields
import Derived.Test.YtfdopmjgiakcdaaGreatDoorPx0
import Derived.Test.YtfdopmjgiakcdaaGreatDoorPx26
import Derived.Test.YtfdopmjgiakcdaaGreatDoorPx27
namespace Go.Proofs.YtfdopmjgiakcdaaGreatDoor.Pure
open Go Go.RowKit Go.Proofs.YtfdopmjgiakcdaaGreatDoor.P Go.Proofs.YtfdopmjgiakcdaaGreatDoor.L Go.Proofs.YtfdopmjgiakcdaaGreatDoorW.PrintWords Go.Proofs.YtfdopmjgiakcdaaGreatDoorW.PrintLast
theorem headF_app (a b : List FT) (hd : List PT) : headF (a ++ b) hd = headF b (headF a hd) := List.foldl_append
/-- A field that one filter alone names. -/
theorem alone_all (L : List FT) (hd : List PT) (i : Nat) (hi : i < L.length) (h : ∀ j (hj : j < L.length), j ≠ i → ¬ ((L[j]'hj).f0 < 4 ∧ eqN (L[j]'hj).f1 (L[i]'hi).f1 = true)) :
    ∃ X, allL (L[i]'hi).f1 X = allL (L[i]'hi).f1 hd ∧ allL (L[i]'hi).f1 (headF L hd) = allL (L[i]'hi).f1 (headS (L[i]'hi) X) := by
  have e : L = L.take i ++ L[i]'hi :: L.drop (i + 1) := by rw [← List.drop_eq_getElem_cons hi, List.take_append_drop]
  refine ⟨headF (L.take i) hd, headF_other _ _ (fun f hf => ?_), ?_⟩
  · obtain ⟨j, hj, rfl⟩ := List.getElem_of_mem hf
    rw [List.length_take] at hj
    rw [List.getElem_take]
    exact h j (by omega) (by omega)
  · have hfold : headF L hd = headF (L.drop (i + 1)) (headS (L[i]'hi) (headF (L.take i) hd)) := by
      conv => lhs; rw [e]
      rw [headF_app]
      rfl
    rw [hfold]
    refine headF_other _ _ (fun f hf => ?_)
    obtain ⟨j, hj, rfl⟩ := List.getElem_of_mem hf
    rw [List.length_drop] at hj
    rw [List.getElem_drop]
    exact h (i + 1 + j) (by omega) (by omega)
theorem set_allL (n v : ByteArray) (l : List PT) : allL n (setL n v l false) = [v] := by
  unfold allL
  rw [(once_get n v l).2.1]
  rfl
theorem drop_allL (n : ByteArray) (l : List PT) : allL n (l.filter fun x => !eqN x.f0 n) = [] := by
  unfold allL
  rw [List.filter_filter, List.filter_eq_nil_iff.2 (fun x _ => by cases eqN x.f0 n <;> simp)]
  rfl
theorem add_allL (n v : ByteArray) (l : List PT) : allL n (l ++ [⟨n, v⟩]) = allL n l ++ [v] := by
  unfold allL
  rw [List.filter_append, List.map_append]
  congr 1
  simp [eqN_refl]
noncomputable def okAt (L : List FT) (i : Nat) (n : ByteArray) (j : Nat) : Bool := match L[j]? with
  | none => true
  | some g => decide (j = i) || (decide (g.f0 > 3) || !eqN g.f1 n)
noncomputable def alB (L : List FT) (i : Nat) (n : ByteArray) : Nat → Nat → Bool
  | 0, _ => true
  | c + 1, j => okAt L i n j && alB L i n c (j + 1)
theorem alB_all (L : List FT) (i : Nat) (n : ByteArray) : ∀ (c j : Nat), alB L i n c j = true → ∀ k, j ≤ k → k < j + c → okAt L i n k = true := by
  intro c
  induction c with
  | zero => intro j _ k h1 h2; omega
  | succ c ih =>
    intro j h k h1 h2
    unfold alB at h
    rw [Bool.and_eq_true] at h
    by_cases e : k = j
    · subst e; exact h.1
    · exact ih (j + 1) h.2 k (by omega) (by omega)
section
variable (L : List FT) (hL : ∀ f ∈ L, SF f) (hL9 : L.length ≤ 9) (hm : ∀ f ∈ L, mayF f = true) (pk : Int) (pv m h p : ByteArray) (q hd : List PT) (hd1 : Small 31 hd) (tls : Bool) (h' p' : ByteArray)
include hL hL9
theorem fields_l1 (i : Nat) (hi : i < L.length) (M : Nat) (hM : 300 ≤ M) : ∀ (c j : Nat) (a : Bool), j + c = L.length → tolllaw07_FilterFields_g2.l1 (c + 1 + M) (i : Int) a (j : Int) L pk pv m h p q hd tls m h' p' q (headF L hd) (L[i]'hi).f0 (L[i]'hi).f1 (L[i]'hi).f2 (L[i]'hi).f3 (L[i]'hi).f4 (L[i]'hi).f5 (L[i]'hi).f6 (L[i]'hi).f7 =
    tolllaw07_FilterFields_g2.l1 (M + 1) (i : Int) (a && alB L i (L[i]'hi).f1 c j) (L.length : Int) L pk pv m h p q hd tls m h' p' q (headF L hd) (L[i]'hi).f0 (L[i]'hi).f1 (L[i]'hi).f2 (L[i]'hi).f3 (L[i]'hi).f4 (L[i]'hi).f5 (L[i]'hi).f6 (L[i]'hi).f7 := by
  intro c
  induction c with
  | zero =>
    intro j a hj
    obtain rfl : j = L.length := by omega
    rw [show 0 + 1 + M = M + 1 by omega]
    unfold alB
    rw [Bool.and_true]
  | succ c ih =>
    intro j a hj
    have hjl : j < L.length := by omega
    have hx := hL _ (List.getElem_mem hjl)
    have hy := hL _ (List.getElem_mem hi)
    have hok : alB L i (L[i]'hi).f1 (c + 1) j = ((decide (j = i) || (decide ((L[j]'hjl).f0 > 3) || !eqN (L[j]'hjl).f1 (L[i]'hi).f1)) && alB L i (L[i]'hi).f1 c (j + 1)) := by
      conv => lhs; unfold alB okAt
      rw [List.getElem?_eq_getElem hjl]
    rw [hok, show c + 1 + 1 + M = (c + 1 + M) + 1 by omega]
    conv => lhs; rw [tolllaw07_FilterFields_g2.l1]
    rw [if_pos (by omega), wrapF (by omega)]
    cases a with
    | false =>
      rw [if_neg (show ¬ (false = true) by decide), ih (j + 1) false (by omega), Bool.false_and, Bool.false_and]
    | true =>
      rw [if_pos rfl, Bool.true_and]
      by_cases e : j = i
      · rw [if_pos (by omega), ih (j + 1) true (by omega), decide_eq_true e, Bool.true_or]
      · rw [if_neg (by omega), if_pos (by omega), rdF L j hjl, decide_eq_false e, Bool.false_or]
        by_cases h3 : (L[j]'hjl).f0 > 3
        · rw [if_pos h3, ih (j + 1) true (by omega), decide_eq_true h3, Bool.true_or]
        · rw [if_neg h3, same_r _ _ _ (by omega) hx.1 hy.1, Option.bind_some, ih (j + 1) _ (by omega), decide_eq_false h3, Bool.false_or]
include hm hd1
theorem fields_l0 : ∀ (c i k : Nat), L.length - i = c → i ≤ L.length → 20 * c + 5000 ≤ k → tolllaw07_FilterFields_g2.l0 k (i : Int) L pk pv m h p q hd tls m h' p' q (headF L hd) = some true := by
  intro c
  induction c with
  | zero =>
    intro i k h1 h2 h3
    obtain ⟨k, rfl⟩ : ∃ z, k = z + 1 := ⟨k - 1, by omega⟩
    rw [tolllaw07_FilterFields_g2.l0, if_neg (by omega), filter_awake k (by omega), Option.bind_some]
  | succ c ih =>
    intro i k h1 h2 h3
    have hi : i < L.length := by omega
    obtain ⟨M, rfl⟩ : ∃ z, k = (L.length + 1 + (z + 3)) + 1 := ⟨k - L.length - 5, by omega⟩
    have nx : ∀ z, 20 * c + 5000 ≤ z → tolllaw07_FilterFields_g2.l0 z ((i + 1 : Nat) : Int) L pk pv m h p q hd tls m h' p' q (headF L hd) = some true := fun z hz => ih (i + 1) z (by omega) (by omega) hz
    rw [tolllaw07_FilterFields_g2.l0, if_pos (by omega), if_pos (by omega), rdF L i hi, wrapF (by omega)]
    by_cases hk3 : (L[i]'hi).f0 > 3
    · rw [if_pos hk3]; exact nx _ (by omega)
    · rw [if_neg hk3, show (0 : Int) = ((0 : Nat) : Int) from rfl, fields_l1 L hL hL9 pk pv m h p q hd tls h' p' i hi (M + 3) (by omega) L.length 0 true (by omega), Bool.true_and]
      have hf := hL _ (List.getElem_mem hi)
      have hkd := may_kind (hm _ (List.getElem_mem hi))
      have hs := headF_small L hd 31 hL hd1
      rw [tolllaw07_FilterFields_g2.l1, if_neg (by omega), all_r hf.1 (hs.mono (by omega)) _ (by omega), Option.bind_some, all_r hf.1 (hd1.mono (by omega)) _ (by omega), Option.bind_some, wrapF (by omega)]
      cases hal : alB L i (L[i]'hi).f1 L.length 0 with
      | false => rw [if_neg (by decide)]; exact nx _ (by omega)
      | true =>
        rw [if_pos rfl]
        obtain ⟨X, hX, hall⟩ := alone_all L hd i hi (fun j hj hji => by
          have hok := alB_all L i _ L.length 0 hal j (Nat.zero_le _) (by omega)
          unfold okAt at hok
          rw [List.getElem?_eq_getElem hj] at hok
          simp only [decide_eq_false hji, Bool.false_or, Bool.or_eq_true, decide_eq_true_eq, Bool.not_eq_true'] at hok
          rintro ⟨g1, g2⟩
          rcases hok with h_ | h_
          · omega
          · rw [h_] at g2; cases g2)
        have hlw : (allL (L[i]'hi).f1 hd).length ≤ 31 := by unfold allL; rw [List.length_map]; exact Nat.le_trans (List.length_filter_le _ _) hd1.1
        rw [hall]
        unfold headS
        by_cases k1 : (L[i]'hi).f0 = 1
        · rw [if_pos k1, if_pos k1, set_allL, same1 _ _ (by simp) (by omega), Option.bind_some, tolllaw07_FilterFields_g2.j2, if_neg (by decide), if_neg (by omega), tolllaw07_FilterFields_g2.j3, if_neg (by decide), if_neg (by omega)]
          rw [wrapF (by omega)]; exact nx (M + 1) (by omega)
        · rw [if_neg k1, if_neg k1, tolllaw07_FilterFields_g2.j2, if_neg (by decide)]
          by_cases k2 : (L[i]'hi).f0 = 2
          · rw [if_pos k2, if_neg (by omega), tolllaw07_FilterFields_g2.j3, if_neg (by decide), if_pos k2, Option.bind_some, add_allL, hX, if_pos (by rw [List.length_nil]; omega), Option.bind_some, Option.bind_some, if_pos (by simp; omega), List.nil_append, same1 _ _ (by simp; omega) (by omega), Option.bind_some, if_pos rfl]
            rw [wrapF (by omega)]; exact nx (M + 1) (by omega)
          · have k3 : (L[i]'hi).f0 = 3 := by omega
            rw [if_neg k2, if_pos k3, if_pos k3, drop_allL, tolllaw07_FilterFields_g2.j3, if_neg (by decide), if_neg (by omega)]
            rw [wrapF (by omega)]; exact nx (M + 1) (by omega)
end
theorem FilterFields : tolllaw07_FilterFields.Pure := by
  intro l0 b0 b1 c0 c1 c2 l3 l4 tls _
  refine ⟨8000, ?_⟩
  unfold tolllaw07_FilterFields_g1.f tolllaw07_FilterFields_g2.f
  rw [cut_p _ _ _ _ _ _ _ _ _ _ (by omega), Option.bind_some, Option.bind_some]
  have hL := fewF_small l0
  have hv := few_len b1
  have hp := few_len c2
  have hd := fewL_small l4
  dsimp only
  generalize fewF l0 = L at *
  generalize few b1 = pv at *
  generalize few c0 = m at *
  generalize few c1 = h at *
  generalize few c2 = p at *
  generalize fewL l3 = q at *
  generalize fewL l4 = hd0 at *
  rw [do_p L b0 pv m h p q hd0 hL.2 (by have := hL.1; omega) hv hp (by omega) hd _ (by omega), Option.bind_some, Option.bind_some]
  rcases doP_two L b0 pv m h p q hd0 with ⟨e, he, h1⟩ | ⟨ha, hh, h1, h0⟩
  · left
    rw [h1, errD_err, if_neg he, filter_awake _ (by omega), Option.bind_some]
  · right
    rw [h1, h0, if_pos rfl]
    obtain ⟨e1, e2, e3, _⟩ := goD_ok b0 pv m q L (h, p, hd0) h0
    rw [e1, e2, e3]
    exact fields_l0 L hL.2 hL.1 (allF_may ha) b0 pv m h p q hd0 hd tls _ _ L.length 0 _ rfl (Nat.zero_le _) (by have := hL.1; omega)
end Go.Proofs.YtfdopmjgiakcdaaGreatDoor.Pure
