/- FilterAways: where a request is sent hangs on no fields of its head; no condition beyond the statement's. -/
import Derived.Test.YtfdopmjgiakcdaaGreatDoorKFilterAways
import Derived.Test.YtfdopmjgiakcdaaGreatDoorQx0
import Derived.Test.YtfdopmjgiakcdaaGreatDoorQx12
import Derived.Test.YtfdopmjgiakcdaaGreatDoorQx9
namespace Go.Proofs.YtfdopmjgiakcdaaGreatDoor.Pure
open Go Go.RowKit Go.Proofs.YtfdopmjgiakcdaaGreatDoor.Q Go.Proofs.YtfdopmjgiakcdaaGreatDoor.L Go.Proofs.YtfdopmjgiakcdaaGreatDoorW.PrintWords Go.Proofs.YtfdopmjgiakcdaaGreatDoorW.PrintLast
/-- What is asked of where a request is sent. -/
noncomputable def okA (L : List FT) (tls : Bool) (z : Int × ByteArray × Int) : Prop :=
  (z.2.2 = 3 → L.any (fun x => x.f0 == 4) = false) ∧ (z.2.2 = 0 → L.any (fun x => x.f0 == 4) = true ∧ (z.1 = 301 ∨ z.1 = 302) ∧ (begA tls).size < z.2.1.size ∧ (os z.2.1).take (begA tls).size = os (begA tls)) ∧ (z.2.2 ≠ 0 → z.1 = 0 ∧ os z.2.1 = [])
theorem away_ok (L : List FT) (pk : Int) (pv h p : ByteArray) (tls : Bool) : okA L tls (awayP L pk pv h p tls) := by
  have bad : ∀ e : Int, e ≠ 3 → e ≠ 0 → okA L tls (0, (⟨#[]⟩ : ByteArray), e) := fun e h3 h0 => ⟨fun h => absurd h h3, fun h => absurd h h0, fun _ => ⟨rfl, rfl⟩⟩
  unfold awayP
  cases ha : allF L with
  | false => rw [if_neg (by decide)]; exact bad 1 (by decide) (by decide)
  | true =>
    rw [if_pos rfl]
    cases hh : holdsP pk (os pv) (os p) with
    | false => rw [if_neg (by decide)]; exact bad 1 (by decide) (by decide)
    | true =>
      rw [if_pos rfl]
      rcases idxI_two (fun x : FT => decide (x.f0 = 4)) L with ⟨e, hno⟩ | ⟨i, hi, e, h4, _⟩
      · rw [e, if_pos (by decide)]
        refine ⟨fun _ => ?_, fun h => (by cases h), fun _ => ⟨rfl, rfl⟩⟩
        rw [List.any_eq_false]
        intro x hx
        have := hno x hx
        simpa using this
      · rw [e, if_neg (by omega), rdF L i hi]
        have hmf := allF_may ha _ (List.getElem_mem hi)
        have h4' := of_decide_eq_true h4
        obtain ⟨ht, _, _, hc⟩ := away_f hmf h4'
        have hany : L.any (fun x => x.f0 == 4) = true := List.any_eq_true.2 ⟨_, List.getElem_mem hi, beq_iff_eq.2 h4'⟩
        unfold awayF
        by_cases h0 : (becB (L[i]'hi) pk pv p).2 = 0
        · rw [if_pos h0]
          obtain ⟨⟨r, hr⟩, _, _⟩ := bec_ok (L[i]'hi) pk pv p ht hh h0
          have hsz : 1 ≤ (becB (L[i]'hi) pk pv p).1.size := by rw [size_os, hr, List.length_cons]; omega
          have hpre : ∃ X : ByteArray, addrA tls (L[i]'hi) h = begA tls ++ X := by
            unfold addrA
            split
            · exact ⟨hostA (L[i]'hi) h ++ ((⟨#[58]⟩ : ByteArray) ++ (⟨(Go.Lib.itoa (L[i]'hi).f4).toArray⟩ : ByteArray)), by rw [ByteArray.append_assoc]⟩
            · exact ⟨_, rfl⟩
          obtain ⟨X, hX⟩ := hpre
          refine ⟨fun h => (by cases h), fun _ => ⟨hany, hc, ?_, ?_⟩, fun h => absurd rfl h⟩
          · show (begA tls).size < (addrA tls (L[i]'hi) h ++ (becB (L[i]'hi) pk pv p).1).size
            rw [hX, ByteArray.size_append, ByteArray.size_append]; omega
          · show (os (addrA tls (L[i]'hi) h ++ (becB (L[i]'hi) pk pv p).1)).take (begA tls).size = _
            rw [hX, os_append, os_append, List.append_assoc, size_os, List.take_left' rfl]
        · rw [if_neg h0]
          exact ⟨fun h => absurd h (bec_err _ _ _ _), fun h => absurd h h0, fun _ => ⟨rfl, rfl⟩⟩
section
variable (L : List FT) (hL : ∀ f ∈ L, SF f) (hL9 : L.length ≤ 9) (pk : Int) (pv m h p : ByteArray) (q hd : List PT) (tls : Bool) (c : Int) (t : ByteArray) (e : Int) (hok : okA L tls (c, t, e))
include hok
theorem aways_j3 (a : Bool) (k : Nat) (hk : 4000 ≤ k) (ha : a = false) : tolllaw07_FilterAways.j3 k e a L pk pv m h p q hd tls c t = some true := by
  obtain ⟨k, rfl⟩ : ∃ z, k = z + 1 := ⟨k - 1, by omega⟩
  have aw : (tolllaw07_awake.f k).bind (fun t => some t) = some true := by rw [filter_awake k (by omega), Option.bind_some]
  have hts := size_os t
  subst ha
  rw [tolllaw07_FilterAways.j3, if_neg (show ¬ (false = true) by decide)]
  by_cases h0 : e = 0
  · obtain ⟨_, hc, hlen, htk⟩ := hok.2.1 h0
    have hc' : c = 301 ∨ c = 302 := hc
    have hlen' : (begA tls).size < t.size := hlen
    have htk' : (os t).take (begA tls).size = os (begA tls) := htk
    have ext : ∀ n : Nat, (t.extract 0 n).toList = (os t).take n := fun n => by rw [toList_os, os_extract, List.drop_zero, Nat.sub_zero]
    rw [if_pos h0, ext, ext, aw]
    cases tls with
    | true =>
      have e8 : (begA true).size = 8 := by decide
      rw [e8] at hlen' htk'
      have htk2 : (os t).take 8 = [104, 116, 116, 112, 115, 58, 47, 47] := htk'
      have hts2 : 8 < t.size := hlen'
      rw [if_pos rfl, if_pos htk2, if_pos (show (8 : Int) ≤ (t.size : Int) by omega), if_pos (show (0 : Nat) ≤ 8 by decide), if_pos (show (t.size : Int) > 8 by omega)]
      rcases hc' with h1 | h1
      · rw [if_pos h1]
      · rw [if_neg (show ¬ c = 301 by omega), if_pos h1]
    | false =>
      have e7 : (begA false).size = 7 := by decide
      rw [e7] at hlen' htk'
      have htk2 : (os t).take 7 = [104, 116, 116, 112, 58, 47, 47] := htk'
      have hts2 : 7 < t.size := hlen'
      rw [if_neg (show ¬ (false = true) by decide), if_pos htk2, if_pos (show (7 : Int) ≤ (t.size : Int) by omega), if_pos (show (0 : Nat) ≤ 7 by decide), if_pos (show (t.size : Int) > 7 by omega)]
      rcases hc' with h1 | h1
      · rw [if_pos h1]
      · rw [if_neg (show ¬ c = 301 by omega), if_pos h1]
  · obtain ⟨hc, ht⟩ := hok.2.2 h0
    have hc' : c = 0 := hc
    have ht' : os t = [] := ht
    rw [if_neg h0, if_pos (by rw [toList_os, hc', ht']; rfl), aw]
include hL9
theorem aways_l1 (k : Nat) (hk : 5000 ≤ k) : ∀ (n j : Nat) (a : Bool), j + n = L.length → (a || (L.drop j).any (fun x => x.f0 == 4)) = L.any (fun x => x.f0 == 4) → tolllaw07_FilterAways.l1 (n + 1 + k) e e a (j : Int) L pk pv m h p q hd tls c t c t = some true := by
  intro n
  induction n with
  | zero =>
    intro j a hj ha
    obtain rfl : j = L.length := by omega
    rw [List.drop_length, List.any_nil, Bool.or_false] at ha
    rw [show 0 + 1 + k = k + 1 by omega, tolllaw07_FilterAways.l1, if_neg (by omega), if_neg (by simp), if_pos rfl]
    have J := fun b hb => aways_j3 L pk pv m h p q hd tls c t e hok b k (by omega) hb
    by_cases h3 : e = 3
    · have := hok.1 h3
      rw [this] at ha
      subst ha
      rw [if_pos h3, if_neg (by decide), if_neg (by omega)]
      exact J false rfl
    · rw [if_neg h3]
      by_cases h0 : e = 0
      · have := (hok.2.1 h0).1
        rw [this] at ha
        subst ha
        rw [if_pos h0]
        exact J _ rfl
      · rw [if_neg h0]
        exact J false rfl
  | succ n ih =>
    intro j a hj ha
    have hjl : j < L.length := by omega
    rw [List.drop_eq_getElem_cons hjl, List.any_cons] at ha
    rw [show n + 1 + 1 + k = (n + 1 + k) + 1 by omega, tolllaw07_FilterAways.l1, if_pos (by omega), wrapF (by omega)]
    cases a with
    | true => rw [if_pos rfl]; exact ih (j + 1) true (by omega) (by rw [← ha]; rfl)
    | false => rw [if_neg (by decide), if_pos (by omega), rdF L j hjl]; exact ih (j + 1) _ (by omega) (by rw [← ha, Bool.false_or])
end
theorem aways_l0 (L : List FT) (hL : ∀ f ∈ L, SF f) (hL9 : L.length ≤ 9) (pk : Int) (pv m h p : ByteArray) (q hd : List PT) (tls : Bool) (hv : (os pv).length ≤ 100) (hh : (os h).length ≤ 100) (hp : (os p).length ≤ 100) (l1 : List PT) :
    ∀ (n i k : Nat) (X : List PT), 6 - i = n → i ≤ 5 → X.length ≤ i → 6000 + n ≤ k → tolllaw07_FilterAways.l0 k l1 (awayP L pk pv h p tls).2.2 (i : Int) L pk pv m h p q hd tls (awayP L pk pv h p tls).1 (awayP L pk pv h p tls).2.1 m h p q X = some true := by
  have J : ∀ (k : Nat) (X : List PT), 5500 ≤ k → tolllaw07_FilterAways.j1 k (awayP L pk pv h p tls).2.2 L pk pv m h p q hd tls (awayP L pk pv h p tls).1 (awayP L pk pv h p tls).2.1 m h p q X = some true := by
    intro k X hk
    obtain ⟨M, rfl⟩ : ∃ z, k = (L.length + 1 + z) + 1 := ⟨k - L.length - 2, by omega⟩
    rw [tolllaw07_FilterAways.j1, away_p L hL (by omega) pk pv m h p q X tls hv hh hp _ (by omega), Option.bind_some]
    exact aways_l1 L hL9 pk pv m h p q hd tls _ _ _ (away_ok L pk pv h p tls) M (by omega) L.length 0 false (by omega) (by rw [List.drop_zero, Bool.false_or])
  intro n
  induction n with
  | zero => intro i k X h1 h2; omega
  | succ n ih =>
    intro i k X h1 h2 h3 h4
    obtain ⟨k, rfl⟩ : ∃ z, k = z + 1 := ⟨k - 1, by omega⟩
    rw [tolllaw07_FilterAways.l0]
    by_cases hl : i < l1.length
    · rw [if_pos (by omega)]
      by_cases h5 : i < 5
      · rw [if_pos (by omega), if_pos (by omega), if_pos (by omega), wrapF (by omega)]
        exact ih (i + 1) k _ (by omega) (by omega) (by rw [List.length_append, List.length_singleton]; omega) (by omega)
      · rw [if_neg (by omega)]; exact J k X (by omega)
    · rw [if_neg (by omega)]; exact J k X (by omega)
theorem FilterAways : tolllaw07_FilterAways.Pure := by
  intro l0 b0 b1 c0 c1 c2 l3 l4 tls l1 _ _
  refine ⟨8000, ?_⟩
  unfold tolllaw07_FilterAways.f
  rw [cut_p _ _ _ _ _ _ _ _ _ _ (by omega), Option.bind_some]
  have hL := fewF_small l0
  dsimp only
  rw [away_p (fewF l0) hL.2 (by have := hL.1; omega) b0 (few b1) (few c0) (few c1) (few c2) (fewL l3) (fewL l4) tls (few_len _) (few_len _) (few_len _) _ (by omega), Option.bind_some]
  exact aways_l0 (fewF l0) hL.2 hL.1 b0 (few b1) (few c0) (few c1) (few c2) (fewL l3) (fewL l4) tls (few_len _) (few_len _) (few_len _) l1 6 0 _ [] rfl (by omega) (by simp) (by omega)
end Go.Proofs.YtfdopmjgiakcdaaGreatDoor.Pure
