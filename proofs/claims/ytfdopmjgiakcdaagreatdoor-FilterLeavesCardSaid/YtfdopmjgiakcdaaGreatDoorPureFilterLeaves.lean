/- FilterLeaves: what filters leave as it was; no condition beyond the statement's. -/
import Derived.Test.YtfdopmjgiakcdaaGreatDoorKFilterLeaves
import Derived.Test.YtfdopmjgiakcdaaGreatDoorPx0
import Derived.Test.YtfdopmjgiakcdaaGreatDoorPx25
namespace Go.Proofs.YtfdopmjgiakcdaaGreatDoor.Pure
open Go Go.RowKit Go.Proofs.YtfdopmjgiakcdaaGreatDoor.P Go.Proofs.YtfdopmjgiakcdaaGreatDoor.L Go.Proofs.YtfdopmjgiakcdaaGreatDoorW.PrintWords Go.Proofs.YtfdopmjgiakcdaaGreatDoorW.PrintLast
theorem leaves_loop (n : ByteArray) (hn : (os n).length ≤ 100) (L : List FT) (hL : ∀ f ∈ L, SF f) (hL9 : L.length ≤ 9) (pk : Int) (pv m h p : ByteArray) (q hd : List PT) (hq : Small 31 q) (hd1 : Small 31 hd) (tls : Bool) (h' p' : ByteArray) :
    ∀ (c i k : Nat), L.length - i = c → i ≤ L.length → (∀ j (hj : j < L.length), j < i → ¬ ((L[j]'hj).f0 < 4 ∧ eqN (L[j]'hj).f1 n = true)) → c + 4000 ≤ k → tolllaw07_FilterLeaves.l0 k n (i : Int) L pk pv m h p q hd tls m h' p' q (headF L hd) = some true := by
  intro c
  induction c with
  | zero =>
    intro i k h1 h2 h3 h4
    obtain ⟨k, rfl⟩ : ∃ z, k = z + 1 := ⟨k - 1, by omega⟩
    have hs := headF_small L hd 31 hL hd1
    rw [tolllaw07_FilterLeaves.l0, if_neg (by omega), if_pos rfl, same4 _ k (by have := hq.1; omega) (by omega), Option.bind_some, if_pos rfl, all_r hn (hs.mono (by omega)) k (by omega), Option.bind_some, all_r hn (hd1.mono (by omega)) k (by omega), Option.bind_some,
      headF_other L hd (fun f hf => by
        obtain ⟨j, hj, rfl⟩ := List.getElem_of_mem hf
        exact h3 j hj (by omega)), same1 _ k (by unfold allL; rw [List.length_map]; exact Nat.le_trans (List.length_filter_le _ _) (by have := hd1.1; omega)) (by omega), Option.bind_some, if_pos rfl, filter_awake k (by omega), Option.bind_some]
  | succ c ih =>
    intro i k h1 h2 h3 h4
    obtain ⟨k, rfl⟩ : ∃ z, k = z + 1 := ⟨k - 1, by omega⟩
    have hi : i < L.length := by omega
    have hf := hL _ (List.getElem_mem hi)
    rw [tolllaw07_FilterLeaves.l0, if_pos (by omega), if_pos (by omega), rdF L i hi, wrapF (by omega)]
    have nx : ¬ ((L[i]'hi).f0 < 4 ∧ eqN (L[i]'hi).f1 n = true) → tolllaw07_FilterLeaves.l0 k n ((i + 1 : Nat) : Int) L pk pv m h p q hd tls m h' p' q (headF L hd) = some true := fun hno =>
      ih (i + 1) k (by omega) (by omega) (fun j hj hji => by
        by_cases e : j = i
        · subst e; exact hno
        · exact h3 j hj (by omega)) (by omega)
    by_cases hk : (L[i]'hi).f0 < 4
    · rw [if_pos hk, same_r _ _ _ (by omega) hf.1 hn, Option.bind_some]
      cases he : eqN (L[i]'hi).f1 n with
      | true => rw [if_pos rfl, if_pos rfl, filter_awake k (by omega), Option.bind_some]
      | false => rw [if_neg (by decide)]; exact nx (fun hc => by rw [he] at hc; cases hc.2)
    · rw [if_neg hk]; exact nx (fun hc => hk hc.1)
theorem FilterLeaves : tolllaw07_FilterLeaves.Pure := by
  intro l0 b0 b1 c0 c1 c2 l3 l4 tls a1 _ _
  refine ⟨8000, ?_⟩
  unfold tolllaw07_FilterLeaves.f
  rw [cut_p _ _ _ _ _ _ _ _ _ _ (by omega), Option.bind_some, few_eq, Option.bind_some]
  have hL := fewF_small l0
  have hv := few_len b1
  have hp := few_len c2
  have hq := fewL_small l3
  have hd := fewL_small l4
  have hn := few_len a1
  dsimp only
  generalize fewF l0 = L at *
  generalize few b1 = pv at *
  generalize few c0 = m at *
  generalize few c1 = h at *
  generalize few c2 = p at *
  generalize fewL l3 = q at *
  generalize fewL l4 = hd0 at *
  generalize few a1 = n at *
  rw [do_p L b0 pv m h p q hd0 hL.2 (by have := hL.1; omega) hv hp (by omega) hd _ (by omega), Option.bind_some]
  rcases doP_two L b0 pv m h p q hd0 with ⟨e, he, h1⟩ | ⟨ha, hh, h1, h0⟩
  · rw [h1, errD_err, if_neg he, errD_same]
    dsimp only
    rw [same_ask _ _ _ _ _ (by simp) (by simp) _ (by omega), Option.bind_some, if_pos rfl, filter_awake _ (by omega), Option.bind_some]
  · rw [h1, h0, if_pos rfl, do_p [] b0 pv m h p q hd0 (fun x hx => by cases hx) (by simp) hv hp (by omega) hd _ (by omega), Option.bind_some]
    have hnil : doP [] b0 pv m h p q hd0 = if hd0.length > 30 then errD 5 else (m, h, p, q, hd0, 0) := by
      unfold doP
      rw [if_pos (by decide), if_pos hh]
      rfl
    rw [hnil]
    by_cases hbig : hd0.length > 30
    · rw [if_pos (by omega), if_pos hbig, errD_err, if_pos rfl, filter_awake _ (by omega), Option.bind_some]
    · rw [if_neg (by omega), if_neg hbig]
      dsimp only
      rw [same_ask _ _ _ _ _ (by have := hq.1; omega) (by have := hd.1; omega) _ (by omega), Option.bind_some, if_pos rfl, tolllaw07_FilterLeaves.j0, if_neg (by decide)]
      obtain ⟨e1, e2, e3, _⟩ := goD_ok b0 pv m q L (h, p, hd0) h0
      rw [e1, e2, e3]
      exact leaves_loop n hn L hL.2 hL.1 b0 pv m h p q hd0 hq hd tls _ _ L.length 0 _ rfl (Nat.zero_le _) (fun j hj hji => absurd hji (Nat.not_lt_zero _)) (by have := hL.1; omega)
end Go.Proofs.YtfdopmjgiakcdaaGreatDoor.Pure
