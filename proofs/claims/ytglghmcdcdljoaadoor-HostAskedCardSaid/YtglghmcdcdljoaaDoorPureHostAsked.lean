/- The pure statement of HostAsked; no condition beyond the statement's. -/
import Derived.Test.YtglghmcdcdljoaaDoorKHostAsked
import Derived.Test.YtglghmcdcdljoaaDoorPx0
import Derived.Test.YtglghmcdcdljoaaDoorPx1
import Derived.Test.YtglghmcdcdljoaaDoorPx2
import Derived.Test.YtglghmcdcdljoaaDoorPx4
namespace Go.Proofs.YtglghmcdcdljoaaDoor.Pure
open Go Go.RowKit Go.Proofs.YtglghmcdcdljoaaDoor.P Go.Proofs.YtglghmcdcdljoaaDoor.L Go.Proofs.YtglghmcdcdljoaaDoorW.PrintWords Go.Proofs.YtglghmcdcdljoaaDoorW.PrintLast
theorem up_fold (c : UInt8) (h1 : 97 ≤ c.toNat) (h2 : c.toNat ≤ 122) : dns_Fold.b (c - 32) = dns_Fold.b c := by
  have e : (c - 32).toNat = c.toNat - 32 := by
    rw [UInt8.toNat_sub_of_le c 32 (by show (32 : Nat) ≤ c.toNat; omega)]; rfl
  unfold dns_Fold.b
  rw [if_pos (by rw [e]; omega), if_neg (by omega), e]
  apply UInt8.toNat_inj.1
  rw [UInt8.toNat_ofNat']
  omega
theorem set_map (b : UInt8 → UInt8) (l : List UInt8) (n : Nat) (c : UInt8) (h : b c = b (l.getD n 0)) : (l.set n c).map b = l.map b := by
  apply List.ext_getElem?
  intro i
  rw [List.getElem?_map, List.getElem?_map, List.getElem?_set]
  by_cases e : n = i
  · subst e
    rw [if_pos rfl]
    by_cases hl : n < l.length
    · rw [if_pos hl, Option.map_some, h, List.getElem?_eq_getElem hl, Option.map_some, List.getD_eq_getElem?_getD, List.getElem?_eq_getElem hl, Option.getD_some]
    · rw [if_neg hl, List.getElem?_eq_none (by omega)]
  · rw [if_neg e]
theorem sh_fold : ∀ (n : Nat) (l : List UInt8) (g : List Bool), (shN n l g).map dns_Fold.b = l.map dns_Fold.b
  | 0, _, _ => rfl
  | n + 1, l, g => by
    rw [shN, shStep]
    split
    · next h => rw [set_map _ _ _ _ (up_fold _ h.2.1 h.2.2), sh_fold n l g]
    · exact sh_fold n l g
/-- What a name's octets are: none is a colon or a capital; it does not end in a dot. -/
theorem lab_all : ∀ (n : Nat) (l : List UInt8), l.length ≤ n → (splitL 46 l).all labL = true → (∀ c ∈ l, octL c = true ∨ c = 46) ∧ l ≠ [] ∧ l.getLast? ≠ some 46 := by
  intro n
  induction n with
  | zero =>
    intro l hl h
    have : l = [] := List.eq_nil_of_length_eq_zero (by omega)
    subst this
    rw [splitL_free (by simp)] at h
    revert h; decide
  | succ n ih =>
    intro l hl h
    by_cases hm : (46 : UInt8) ∈ l
    · obtain ⟨p, r, e, hp⟩ := List.eq_append_cons_of_mem hm
      subst e
      rw [splitL_at r hp, List.all_cons, Bool.and_eq_true] at h
      have hr := ih r (by simp at hl; omega) h.2
      have h1 := h.1
      unfold labL at h1
      simp only [Bool.and_eq_true, decide_eq_true_eq] at h1
      refine ⟨fun c hc => ?_, by simp, ?_⟩
      · rcases List.mem_append.1 hc with hc | hc
        · exact .inl (List.all_eq_true.1 h1.2.2.1 c hc)
        · rcases List.mem_cons.1 hc with rfl | hc
          · exact .inr rfl
          · exact hr.1 c hc
      · have hz : (p ++ 46 :: r).getLast? = r.getLast? := by
          rw [List.getLast?_append, List.getLast?_cons]
          cases h : r.getLast? with
          | none => exact absurd (List.getLast?_eq_none_iff.1 h) hr.2.1
          | some z => rfl
        rw [hz]
        exact hr.2.2
    · rw [splitL_free hm] at h
      have h1 : labL l = true := by simpa using h
      unfold labL at h1
      simp only [Bool.and_eq_true, decide_eq_true_eq] at h1
      refine ⟨fun c hc => .inl (List.all_eq_true.1 h1.2.2.1 c hc), h1.1, fun e => hm (List.mem_of_getLast? e)⟩
theorem name_fold {l : List UInt8} (h : nm l = true) : l.map dns_Fold.b = l ∧ (58 : UInt8) ∉ l ∧ noDot l = l ∧ noDot (l ++ [46]) = l := by
  rw [nm_eq] at h
  unfold nameL at h
  rw [Bool.and_eq_true] at h
  obtain ⟨h1, h2, h3⟩ := lab_all l.length l (Nat.le_refl _) h.2
  have hc : ∀ c ∈ l, ¬ (65 ≤ c.toNat ∧ c.toNat ≤ 90) ∧ c ≠ 58 := fun c hc => by
    rcases h1 c hc with h | h
    · unfold octL at h
      simp only [Bool.or_eq_true, Bool.and_eq_true, decide_eq_true_eq, beq_iff_eq] at h
      refine ⟨by omega, fun e => ?_⟩
      rw [e] at h
      revert h; decide
    · subst h; decide
  refine ⟨?_, fun h => (hc 58 h).2 rfl, ?_, ?_⟩
  · conv => rhs; rw [← List.map_id l]
    exact List.map_congr_left fun c hm => by rw [dns_Fold.b, if_neg (hc c hm).1]; rfl
  · unfold noDot
    rw [if_neg]
    intro h
    obtain ⟨u, hu⟩ := List.isSuffixOf_iff_suffix.1 h
    rw [← hu] at h3
    exact h3 (by simp)
  · unfold noDot
    rw [if_pos (List.isSuffixOf_iff_suffix.2 ⟨l, rfl⟩)]
    simp
theorem noPort_free {f : List UInt8} (h : (58 : UInt8) ∉ f) : noPort f = f := noPort_no fun _ _ _ hp => h (List.mem_of_getElem? hp.2.1)
theorem noPort_tail {l d : List UInt8} (h1 : 1 ≤ d.length) (h5 : d.length ≤ 5) (hd : ∀ c ∈ d, dig c) : noPort (l ++ 58 :: d) = l := by
  have hl : (l ++ 58 :: d).length = l.length + d.length + 1 := by simp; omega
  rw [noPort_yes h1 h5 ⟨by omega, ?_, ?_⟩, hl, show l.length + d.length + 1 - d.length - 1 = l.length by omega, List.take_left']
  · rfl
  · rw [hl, show l.length + d.length + 1 - d.length - 1 = l.length by omega]; simp
  · rw [hl, show l.length + d.length + 1 - d.length = l.length + 1 by omega]
    intro c hc
    rw [show l ++ 58 :: d = (l ++ [58]) ++ d by simp, List.drop_left' (by simp)] at hc
    exact hd c hc
/-- What is asked comes to the name. -/
theorem asked_of {s : ByteArray} {l x : List UInt8} (hl : nm l = true) (hs : (os s).length ≤ 100) (hx : (os s).map dns_Fold.b = x) (hp : noDot (noPort x) = l) (k : Nat) (hk : 1010 ≤ k) : ∃ t, host_Of.f k s = some (t, 0) ∧ os t = l := by
  obtain ⟨t, h1, h2⟩ := of_h s hs k hk
  have he : ofH (os s) = (l, 0) := by unfold ofH; rw [hx, hp, if_pos hl]
  rw [he] at h1 h2
  exact ⟨t, h1, h2⟩
theorem digits_told : ∀ (f : Nat) (m : Nat) (d : ByteArray) (k : Nat), m < 10 ^ f → f ≤ 5 → (os d).length + f ≤ 5 → f + 2 ≤ k → (∀ c ∈ os d, dig c) →
    ∃ D, hostAsked_d k d (m : Int) = some D ∧ (∀ c ∈ os D, dig c) ∧ 1 ≤ (os D).length ∧ (os D).length ≤ 5 := by
  have one : ∀ (m : Nat) (d : ByteArray), m < 100000 → (os d).length ≤ 5 → (∀ c ∈ os d, dig c) → os (strOfNums [(wrap64 (48 + Int.tmod (m : Int) 10)) % 256] ++ d) = UInt8.ofNat (48 + m % 10) :: os d ∧ (strOfNums [(wrap64 (48 + Int.tmod (m : Int) 10)) % 256]).size + d.size ≤ 9223372036854775807 ∧ wrap64 (Int.tdiv (m : Int) 10) = ((m / 10 : Nat) : Int) ∧ dig (UInt8.ofNat (48 + m % 10)) := by
    intro m d hm hd _
    have ht : Int.tmod (m : Int) 10 = ((m % 10 : Nat) : Int) := by rw [Int.tmod_eq_emod_of_nonneg (by omega)]; omega
    have hq : Int.tdiv (m : Int) 10 = ((m / 10 : Nat) : Int) := by rw [Int.tdiv_eq_ediv_of_nonneg (by omega)]; omega
    have hw : (wrap64 (48 + Int.tmod (m : Int) 10)) % 256 = ((48 + m % 10 : Nat) : Int) := by rw [ht, wrap64_id (by omega) (by omega)]; omega
    rw [hw]
    refine ⟨by rw [os_append, nums1, Int.toNat_natCast]; rfl, ?_, by rw [hq, wrap64_id (by omega) (by omega)], ?_⟩
    · have z2 : ∀ c : Int, (strOfNums [c]).size = 1 := fun c => by rw [size_os, nums1]; rfl
      rw [z2]; have := size_os d; omega
    · unfold dig
      rw [UInt8.toNat_ofNat']
      omega
  have stop : ∀ (d : ByteArray) (k : Nat), (os d).length ≤ 5 → 1 ≤ (os d).length → 1 ≤ k → hostAsked_d k d 0 = some d := by
    intro d k h5 h1 hk
    obtain ⟨k, rfl⟩ : ∃ m, k = m + 1 := ⟨k - 1, by omega⟩
    rw [hostAsked_d, if_neg]
    rintro (h | h)
    · omega
    · rw [toList_os] at h; rw [h] at h1; simp at h1
  intro f
  induction f with
  | zero =>
    intro m d k hm _ hd hk hdig
    have hm0 : m = 0 := by omega
    subst hm0
    by_cases he : os d = []
    · obtain ⟨k, rfl⟩ : ∃ m, k = m + 1 := ⟨k - 1, by omega⟩
      obtain ⟨o1, o2, o3, o4⟩ := one 0 d (by omega) (by omega) hdig
      rw [hostAsked_d, if_pos (.inr (by rw [toList_os]; exact he)), if_pos o2, o3]
      rw [he] at o1
      have ol : (os (strOfNums [(wrap64 (48 + Int.tmod ((0 : Nat) : Int) 10)) % 256] ++ d)).length = 1 := by rw [o1]; rfl
      refine ⟨_, stop _ k (by omega) (by omega) (by omega), fun c hc => ?_, by omega, by omega⟩
      rw [o1] at hc
      rcases List.mem_cons.1 hc with rfl | hc
      · exact o4
      · cases hc
    · have h1 : 1 ≤ (os d).length := by cases h : os d with | nil => exact absurd h he | cons => simp
      exact ⟨d, stop d k (by omega) h1 (by omega), hdig, h1, by omega⟩
  | succ f ih =>
    intro m d k hm hf hd hk hdig
    by_cases h0 : m = 0
    · subst h0
      exact ih 0 d k (Nat.pow_pos (by decide)) (by omega) (by omega) (by omega) hdig
    · obtain ⟨k, rfl⟩ : ∃ m, k = m + 1 := ⟨k - 1, by omega⟩
      have hm5 : m < 100000 := Nat.lt_of_lt_of_le hm (by have := Nat.pow_le_pow_right (show 0 < 10 by decide) hf; omega)
      obtain ⟨o1, o2, o3, o4⟩ := one m d hm5 (by omega) hdig
      rw [hostAsked_d, if_pos (.inl (by omega)), if_pos o2, o3]
      refine ih (m / 10) _ k ?_ (by omega) (by rw [o1, List.length_cons]; omega) (by omega) (fun c hc => ?_)
      · rw [Nat.pow_succ] at hm; omega
      · rw [o1] at hc
        rcases List.mem_cons.1 hc with rfl | hc
        · exact o4
        · exact hdig c hc
theorem HostAsked : tolllaw02_HostAsked.Pure := by
  intro a0 a1 l2 _ hw _
  refine ⟨3000, ?_⟩
  have hh := few_len a0
  unfold tolllaw02_HostAsked.f
  rw [few_eq, Option.bind_some, name_r _ (by omega) _ (by decide), Option.bind_some]
  generalize few a0 = h at *
  cases hn : nm (os h) with
  | false => rw [if_neg (by decide), host_awake _ (by decide)]
  | true =>
    obtain ⟨n1, n2, n3, n4⟩ := name_fold hn
    have ha : 0 ≤ a1 ∧ a1 < 65536 := by
      simp [Lit.wf, IntKind.min, IntKind.max, IntKind.signed, IntKind.bits] at hw; omega
    obtain ⟨m, rfl⟩ : ∃ m : Nat, a1 = (m : Int) := ⟨a1.toNat, by omega⟩
    obtain ⟨D, d1, d2, d3, d4⟩ := digits_told 5 m ⟨#[]⟩ 3000 (by omega) (by omega) (by show 0 + 5 ≤ 5; omega) (by omega) (fun c hc => by cases hc)
    have hz := size_os h
    have hz2 := size_os D
    rw [if_pos rfl, wrap64_id (by omega) (by omega), d1, Option.bind_some, if_pos (by omega)]
    have hb1 : (os (hostAsked_b h l2)).map dns_Fold.b = os h := by
      show (shN _ _ _).map dns_Fold.b = _
      rw [sh_fold]; exact n1
    have hb2 : (os (hostAsked_b h l2)).length = (os h).length := by rw [← hb1, List.length_map]
    have hl60 : (os h).length ≤ 60 := by
      rw [nm_eq] at hn
      unfold nameL at hn
      rw [Bool.and_eq_true, decide_eq_true_eq] at hn
      exact hn.1
    have hD : (os D).map dns_Fold.b = os D := by
      conv => rhs; rw [← List.map_id (os D)]
      exact List.map_congr_left fun c hm => by have := d2 c hm; unfold dig at this; rw [dns_Fold.b, if_neg (by omega)]; rfl
    generalize hostAsked_b h l2 = b at *
    obtain ⟨t1, e1, f1⟩ := asked_of (s := b) hn (by omega) hb1 (by rw [noPort_free n2, n3]) 3000 (by decide)
    obtain ⟨t2, e2, f2⟩ := asked_of (s := b ++ ⟨#[46]⟩) (x := os h ++ [46]) hn (by rw [os_append, List.length_append]; show _ + 1 ≤ 100; omega) (by rw [os_append, List.map_append, hb1]; rfl) (by rw [noPort_free (by simp [n2]), n4]) 3000 (by decide)
    obtain ⟨t3, e3, f3⟩ := asked_of (s := (b ++ ⟨#[58]⟩) ++ D) (x := os h ++ 58 :: os D) hn (by rw [os_append, os_append, List.length_append, List.length_append]; show _ + 1 + _ ≤ 100; omega) (by rw [os_append, os_append, List.map_append, List.map_append, hb1, hD]; show (os h ++ [58]) ++ os D = _; simp) (by rw [noPort_tail d3 d4 d2, n3]) 3000 (by decide)
    obtain ⟨t4, e4, f4⟩ := asked_of (s := (b ++ ⟨#[46, 58]⟩) ++ D) (x := (os h ++ [46]) ++ 58 :: os D) hn (by rw [os_append, os_append, List.length_append, List.length_append]; show _ + 2 + _ ≤ 100; omega) (by rw [os_append, os_append, List.map_append, List.map_append, hb1, hD]; show (os h ++ [46, 58]) ++ os D = _; simp) (by rw [noPort_tail d3 d4 d2, n4]) 3000 (by decide)
    unfold hostAsked_e
    rw [e1, Option.bind_some, e2, Option.bind_some, e3, Option.bind_some, e4, Option.bind_some, if_pos ⟨by rw [toList_os, toList_os]; exact f1, by rw [toList_os, toList_os]; exact f2, by rw [toList_os, toList_os]; exact f3, by rw [toList_os, toList_os]; exact f4, rfl, rfl, rfl, rfl⟩, host_awake _ (by decide)]
end Go.Proofs.YtglghmcdcdljoaaDoor.Pure
