import Derived.Test.YtfdopmjgiakcdaaGreatDoorPx0
import Derived.Test.YtfdopmjgiakcdaaGreatDoorPx10
import Derived.Test.YtfdopmjgiakcdaaGreatDoorPx11
import Derived.Test.YtfdopmjgiakcdaaGreatDoorPx12
import Derived.Test.YtfdopmjgiakcdaaGreatDoorPx13
import Derived.Test.YtfdopmjgiakcdaaGreatDoorPx14
import Derived.Test.YtfdopmjgiakcdaaGreatDoorPx15
import Derived.Test.YtfdopmjgiakcdaaGreatDoorPx16
import Derived.Test.YtfdopmjgiakcdaaGreatDoorPx17
import Derived.Test.YtfdopmjgiakcdaaGreatDoorPx20
import Derived.Test.YtfdopmjgiakcdaaGreatDoorPx21
import Derived.Test.YtfdopmjgiakcdaaGreatDoorPx22
import Derived.Test.YtfdopmjgiakcdaaGreatDoorPx23
import Derived.Test.YtfdopmjgiakcdaaGreatDoorPx4
import Derived.Test.YtfdopmjgiakcdaaGreatDoorPx5
import Derived.Test.YtfdopmjgiakcdaaGreatDoorPx6
import Derived.Test.YtfdopmjgiakcdaaGreatDoorPx7
import Derived.Test.YtfdopmjgiakcdaaGreatDoorPx8
import Derived.Test.YtfdopmjgiakcdaaGreatDoorPx9
import Derived.Test.YtfdopmjgiakcdaaGreatDoorWWords
import Derived.Laws.Strings
import Derived.Laws.Runes
import Derived.Lib.ItoaLen
import Derived.Lib.ItoaNum
namespace Go.Proofs.YtfdopmjgiakcdaaGreatDoor.L
open Go Go.RowKit Go.Proofs.YtfdopmjgiakcdaaGreatDoorW.PrintWords

abbrev os (s : ByteArray) : List UInt8 := s.data.toList

theorem toList_os (s : ByteArray) : s.toList = os s := ByteArray.toList_eq s
theorem size_os (s : ByteArray) : s.size = (os s).length := (Array.length_toList (xs := s.data)).symm
theorem os_inj {s t : ByteArray} (h : os s = os t) : s = t := by
  cases s with | mk a => cases t with | mk b =>
  have : a = b := Array.toList_inj.1 h
  rw [this]
theorem os_append (s t : ByteArray) : os (s ++ t) = os s ++ os t := by
  simp [os, ByteArray.data_append]
theorem os_extract (s : ByteArray) (a b : Nat) : os (s.extract a b) = ((os s).drop a).take (b - a) := by
  simp [os, ByteArray.data_extract, Array.toList_extract, List.extract]
theorem bt_os (s : ByteArray) (i : Nat) : bt s (i : Int) = (((os s)[i]?.getD 0).toNat : Int) := by
  unfold bt
  have hs := size_os s
  by_cases h : ((i : Nat) : Int).toNat < s.size
  · rw [dif_pos h]
    have h' : i < (os s).length := by simp at h; omega
    rw [List.getElem?_eq_getElem h']
    rfl
  · rw [dif_neg h]
    have h' : (os s).length ≤ i := by simp at h; omega
    rw [List.getElem?_eq_none h']
    rfl
theorem wrap64_id {x : Int} (h1 : -9223372036854775808 ≤ x) (h2 : x ≤ 9223372036854775807) : wrap64 x = x := by unfold wrap64; omega
end Go.Proofs.YtfdopmjgiakcdaaGreatDoor.L
namespace Go.Proofs.YtfdopmjgiakcdaaGreatDoor.L
open Go Go.RowKit Go.Proofs.YtfdopmjgiakcdaaGreatDoor.P Go.Proofs.YtfdopmjgiakcdaaGreatDoorW.PrintWords Go.Proofs.YtfdopmjgiakcdaaGreatDoorW.PrintLast

noncomputable def pok (c : UInt8) : Bool := decide (33 ≤ c.toNat) && (decide (c.toNat ≤ 126) && (c.toNat != 63 && c.toNat != 35))
noncomputable def isPath (l : List UInt8) : Bool := l.all pok && (l.head? == some 47 && decide (l.length ≤ 60))
noncomputable def above (l : List UInt8) : Bool := isPath l && (l == [47] || l.getLast? != some 47)
noncomputable def mayP (k : Int) (l : List UInt8) : Bool := (k == 1 && isPath l) || (k == 2 && above l)
noncomputable def holdsP (k : Int) (p s : List UInt8) : Bool := mayP k p && isPath s && (p == s || (k == 2 && (p == [47] || (p ++ [47]).isPrefixOf s)))

theorem isPath_len {l : List UInt8} (h : isPath l = true) : 1 ≤ l.length ∧ l.length ≤ 60 := by
  unfold isPath at h
  simp only [Bool.and_eq_true, decide_eq_true_eq, beq_iff_eq] at h
  refine ⟨?_, h.2.2⟩
  cases l with
  | nil => simp at h
  | cons a r => simp
theorem isPath_head {l : List UInt8} (h : isPath l = true) : ∃ r, l = 47 :: r := by
  unfold isPath at h
  simp only [Bool.and_eq_true, decide_eq_true_eq, beq_iff_eq] at h
  cases l with
  | nil => simp at h
  | cons a r =>
    have := h.2.1
    simp at this
    exact ⟨r, by rw [this]⟩

theorem hasPrefix (s p : ByteArray) : strings_HasPrefix.f s p = some ((os p).isPrefixOf (os s)) := by
  have hs := size_os s
  have hp := size_os p
  unfold strings_HasPrefix.f stringslite_HasPrefix.f
  by_cases h : (s.size : Int) ≥ (p.size : Int)
  · rw [if_pos h, if_pos (by omega), if_pos (by omega), Option.bind_some]
    congr 1
    rw [toList_os, toList_os, os_extract, List.drop_zero, Nat.sub_zero, hp, Bool.eq_iff_iff, beq_iff_eq, List.isPrefixOf_iff_prefix]
    constructor
    · intro h
      rw [← h]
      exact List.take_prefix _ _
    · intro h
      exact (List.prefix_iff_eq_take.1 h).symm
  · rw [if_neg h, Option.bind_some]
    congr 1
    symm
    rw [Bool.eq_false_iff]
    intro hc
    have := (List.isPrefixOf_iff_prefix.1 hc).length_le
    omega
theorem hasSuffix (s p : ByteArray) (hl : s.size ≤ 9223372036854775807) : strings_HasSuffix.f s p = some ((os p).isSuffixOf (os s)) := by
  have hs := size_os s
  have hp := size_os p
  unfold strings_HasSuffix.f stringslite_HasSuffix.f
  by_cases h : (s.size : Int) ≥ (p.size : Int)
  · have hw : wrap64 ((s.size : Int) - (p.size : Int)) = ((s.size - p.size : Nat) : Int) := by rw [wrap64_id (by omega) (by omega)]; omega
    rw [if_pos h, hw, if_pos (by omega), if_pos (by omega), Option.bind_some]
    congr 1
    rw [toList_os, toList_os, os_extract, Int.toNat_natCast, Bool.eq_iff_iff, beq_iff_eq, List.isSuffixOf_iff_suffix, List.take_of_length_le (by simp)]
    rw [List.suffix_iff_eq_drop, ← hs, ← hp]
    exact eq_comm
  · rw [if_neg h, Option.bind_some]
    congr 1
    symm
    rw [Bool.eq_false_iff]
    intro hc
    have := (List.isSuffixOf_iff_suffix.1 hc).length_le
    omega

theorem path_is (s : ByteArray) : path_Is.f s = some (isPath (os s)) := by
  have hs := size_os s
  unfold path_Is.f isPath
  by_cases h : (os s).all path_Is.ok = true
  · rw [if_pos h, hasPrefix, Option.bind_some]
    have h2 : (os s).all pok = true := h
    rw [h2]
    have h3 : (os (⟨#[47]⟩ : ByteArray)).isPrefixOf (os s) = ((os s).head? == some 47) := by
      show [47].isPrefixOf (os s) = _
      cases os s with
      | nil => rfl
      | cons a r =>
        show (47 == a && true) = (some a == some 47)
        by_cases ha : a = 47
        · rw [ha]; rfl
        · rw [Bool.and_true, beq_eq_false_iff_ne.2 (Ne.symm ha), beq_eq_false_iff_ne.2 (fun h => ha (Option.some.inj h))]
    rw [h3]
    cases (os s).head? == some 47
    · rfl
    · rw [if_pos rfl, Bool.true_and, Bool.true_and]
      congr 1
      exact decide_eq_decide.2 (by omega)
  · rw [if_neg h]
    have h2 : (os s).all pok = false := by rw [Bool.eq_false_iff]; exact h
    rw [h2]
    rfl

theorem ref_is_loop (s : ByteArray) (hl : s.size ≤ 1000) : ∀ (d k i : Nat), i + d = s.size → d < k → tollref03_Is.l0 k s (i : Int) = some (((os s).drop i).all pok) := by
  have hs := size_os s
  intro d
  induction d with
  | zero =>
    intro k i hi hk
    obtain ⟨k, rfl⟩ : ∃ m, k = m + 1 := ⟨k - 1, by omega⟩
    simp only [tollref03_Is.l0]
    rw [if_neg (by omega), List.drop_eq_nil_of_le (by omega)]
    rfl
  | succ d ih =>
    intro k i hi hk
    obtain ⟨k, rfl⟩ : ∃ m, k = m + 1 := ⟨k - 1, by omega⟩
    have hil : i < (os s).length := by omega
    simp only [tollref03_Is.l0]
    rw [if_pos (by omega), if_pos (by omega), bt_os, List.getElem?_eq_getElem hil, Option.getD_some, List.drop_eq_getElem_cons hil, List.all_cons]
    have hn := ((os s)[i]'hil).toNat_lt
    have hw : wrap64 ((i : Int) + 1) = ((i + 1 : Nat) : Int) := by rw [wrap64_id (by omega) (by omega)]; omega
    rw [hw, ih k (i + 1) (by omega) (by omega)]
    generalize ((os s)[i]'hil) = c at hn
    generalize ((os s).drop (i + 1)).all pok = b
    unfold pok
    by_cases h1 : c.toNat < 33
    · rw [if_pos (by omega), show decide (33 ≤ c.toNat) = false from by simp; omega]; rfl
    rw [if_neg (by omega), show decide (33 ≤ c.toNat) = true from by simp; omega]
    by_cases h2 : 126 < c.toNat
    · rw [if_pos (by omega), show decide (c.toNat ≤ 126) = false from by simp; omega]; rfl
    rw [if_neg (by omega), show decide (c.toNat ≤ 126) = true from by simp; omega]
    by_cases h3 : c.toNat = 63
    · rw [if_pos (by omega), h3]; rfl
    rw [if_neg (by omega), show (c.toNat != 63) = true from by simpa using h3]
    by_cases h4 : c.toNat = 35
    · rw [if_pos (by omega), h4]; rfl
    rw [if_neg (by omega), show (c.toNat != 35) = true from by simpa using h4]
    rfl
theorem ref_is (s : ByteArray) (k : Nat) (hk : s.size + 3 ≤ k) (hl : s.size ≤ 1000) : tollref03_Is.f k s = some (isPath (os s)) := by
  have hs := size_os s
  obtain ⟨k, rfl⟩ : ∃ m, k = m + 1 := ⟨k - 1, by omega⟩
  unfold tollref03_Is.f isPath
  by_cases h1 : (s.size : Int) < 1
  · rw [if_pos h1]
    simp only [tollref03_Is.j0]
    rw [if_pos trivial]
    have : os s = [] := List.eq_nil_of_length_eq_zero (by omega)
    rw [this]
    rfl
  rw [if_neg h1]
  by_cases h2 : (s.size : Int) > 60
  · rw [if_pos h2]
    simp only [tollref03_Is.j0]
    rw [if_pos trivial, decide_eq_false (show ¬ (os s).length ≤ 60 by omega), Bool.and_false, Bool.and_false]
  rw [if_neg h2, if_pos (by omega), decide_eq_true (show (os s).length ≤ 60 by omega), Bool.and_true]
  simp only [tollref03_Is.j0]
  have hb := bt_os s 0
  obtain ⟨c, r, hc⟩ : ∃ c r, os s = c :: r := by
    cases h : os s with
    | nil => rw [h, List.length_nil] at hs; omega
    | cons c r => exact ⟨c, r, rfl⟩
  have hb2 : bt s 0 = (c.toNat : Int) := by
    have : bt s 0 = bt s ((0 : Nat) : Int) := rfl
    rw [this, hb, hc]; rfl
  rw [hb2]
  by_cases h3 : c = 47
  · have : ((c.toNat : Int) != 47) = false := by rw [h3]; rfl
    rw [this, if_neg (by simp)]
    have hlp := ref_is_loop s hl s.size k 0 (by omega) (by omega)
    rw [List.drop_zero] at hlp
    have hz : tollref03_Is.l0 k s 0 = tollref03_Is.l0 k s ((0 : Nat) : Int) := rfl
    rw [hz, hlp, hc, h3]
    simp
  · have hne : ((c.toNat : Int) != 47) = true := by
      rw [bne_iff_ne]
      intro h
      apply h3
      apply UInt8.toNat_inj.1
      show c.toNat = 47
      omega
    rw [hne, if_pos rfl, hc]
    simp [h3]

theorem path_above_f (s : ByteArray) (hl : s.size ≤ 1000) : path_above.f s = some (above (os s)) := by
  unfold path_above.f above
  rw [path_is, Option.bind_some]
  cases h : isPath (os s)
  · rw [if_neg (by simp)]; rfl
  · rw [if_pos rfl, toList_os]
    by_cases h2 : os s = [47]
    · rw [if_pos h2, h2]; rfl
    · rw [if_neg h2, hasSuffix _ _ (by omega), Option.bind_some]
      have : (os s == [47]) = false := by simpa using h2
      rw [this, Bool.true_and, Bool.false_or]
      congr 1
      show (![47].isSuffixOf (os s)) = (!((os s).getLast? == some 47))
      congr 1
      rw [Bool.eq_iff_iff, List.isSuffixOf_iff_suffix, beq_iff_eq]
      constructor
      · rintro ⟨t, ht⟩
        rw [← ht]; simp
      · intro hg
        exact ⟨(os s).dropLast, by
          obtain ⟨l, hl⟩ := List.getLast?_eq_some_iff.1 hg
          rw [hl]; simp⟩
theorem ref_above (s : ByteArray) (k : Nat) (hk : s.size + 3 ≤ k) (hl : s.size ≤ 1000) : tollref03_Above.f k s = some (above (os s)) := by
  have hs := size_os s
  unfold tollref03_Above.f above
  rw [ref_is s k hk hl, Option.bind_some]
  cases h : isPath (os s)
  · rw [if_neg (by simp)]; rfl
  · rw [if_pos rfl]
    obtain ⟨r, hr⟩ := isPath_head h
    by_cases h1 : (s.size : Int) = 1
    · rw [if_pos h1]
      have : r = [] := List.eq_nil_of_length_eq_zero (by rw [hr] at hs; simp at hs; omega)
      rw [hr, this]; rfl
    · have hw : wrap64 ((s.size : Int) - 1) = ((s.size - 1 : Nat) : Int) := by
        have := isPath_len h
        rw [wrap64_id (by omega) (by omega)]; omega
      have hlen := isPath_len h
      rw [if_neg h1, hw, if_pos (by omega), if_pos (by omega), bt_os]
      have hne : (os s == [47]) = false := by
        rw [beq_eq_false_iff_ne]
        intro hc
        rw [hc] at hs
        simp at hs; omega
      rw [hne, Bool.true_and, Bool.false_or, hs, ← List.getLast?_eq_getElem?]
      congr 1
      cases hg : (os s).getLast? with
      | none => rw [List.getLast?_eq_none_iff] at hg; rw [hg] at hlen; simp at hlen
      | some c =>
        rw [Option.getD_some]
        show (!((c.toNat : Int) == 47)) = (!(some c == some 47))
        congr 1
        rw [Bool.eq_iff_iff, beq_iff_eq, beq_iff_eq]
        constructor
        · intro h; congr 1; apply UInt8.toNat_inj.1; show c.toNat = 47; omega
        · intro h; injection h with h; rw [h]; rfl

theorem path_may (k : Int) (s : ByteArray) (hl : s.size ≤ 1000) : path_May.f k s = some (mayP k (os s)) := by
  unfold path_May.f mayP
  rw [path_is, path_above_f s hl]
  by_cases h1 : k = 1
  · subst h1
    cases isPath (os s) <;> rfl
  · rw [if_neg h1, beq_eq_false_iff_ne.2 h1]
    by_cases h2 : k = 2
    · subst h2; rfl
    · rw [if_neg h2, beq_eq_false_iff_ne.2 h2]; rfl
theorem ref_may (k : Int) (s : ByteArray) (n : Nat) (hn : s.size + 3 ≤ n) (hl : s.size ≤ 1000) : tollref03_May.f n k s = some (mayP k (os s)) := by
  unfold tollref03_May.f mayP
  rw [ref_is s n hn hl, ref_above s n hn hl]
  by_cases h1 : k = 1
  · subst h1
    cases isPath (os s) <;> rfl
  · rw [if_neg h1, beq_eq_false_iff_ne.2 h1]
    by_cases h2 : k = 2
    · subst h2; rfl
    · rw [if_neg h2, beq_eq_false_iff_ne.2 h2]; rfl
theorem mayP_kind {k : Int} {l : List UInt8} (h : mayP k l = true) : isPath l = true ∧ (k = 1 ∨ k = 2 ∧ above l = true) := by
  unfold mayP at h
  simp only [Bool.or_eq_true, Bool.and_eq_true, beq_iff_eq] at h
  rcases h with ⟨h1, h2⟩ | ⟨h1, h2⟩
  · exact ⟨h2, .inl h1⟩
  · refine ⟨?_, .inr ⟨h1, h2⟩⟩
    unfold above at h2
    simp only [Bool.and_eq_true] at h2
    exact h2.1
theorem path_holds (k : Int) (p s : ByteArray) (n : Nat) (hn : 1 ≤ n) (hp : p.size ≤ 1000) : path_Holds.f n k p s = some (holdsP k (os p) (os s)) := by
  have hps := size_os p
  unfold path_Holds.f holdsP
  obtain ⟨n, rfl⟩ : ∃ m, n = m + 1 := ⟨n - 1, by omega⟩
  rw [path_may k p hp, Option.bind_some, path_is, Option.bind_some]
  simp only [path_Holds.j0]
  cases h1 : mayP k (os p)
  · rw [if_neg (by simp), if_pos trivial]; rfl
  rw [if_pos rfl]
  cases h2 : isPath (os s)
  · rfl
  show (if false = true then _ else _) = _
  rw [if_neg (by simp), toList_os, toList_os]
  by_cases h3 : os p = os s
  · rw [if_pos h3, h3]; simp
  rw [if_neg h3, beq_eq_false_iff_ne.2 h3]
  by_cases h4 : k = 2
  · subst h4
    rw [if_pos rfl]
    by_cases h5 : os p = [47]
    · rw [if_pos h5, h5]; rfl
    · rw [if_neg h5, if_pos (by omega), hasPrefix, Option.bind_some, os_append, beq_eq_false_iff_ne.2 h5]
      rfl
  · rw [if_neg h4, beq_eq_false_iff_ne.2 h4]; rfl
theorem prefix_slash (p s : List UInt8) : (p ++ [47]).isPrefixOf s = (decide (p.length < s.length) && (s.take p.length == p && s[p.length]?.getD 0 == 47)) := by
  rw [Bool.eq_iff_iff, List.isPrefixOf_iff_prefix]
  simp only [Bool.and_eq_true, decide_eq_true_eq, beq_iff_eq]
  constructor
  · rintro ⟨t, rfl⟩
    simp
  · rintro ⟨h1, h2, h3⟩
    rw [List.getElem?_eq_getElem h1, Option.getD_some] at h3
    refine ⟨s.drop (p.length + 1), ?_⟩
    rw [List.append_assoc]
    conv => rhs; rw [← List.take_append_drop p.length s, List.drop_eq_getElem_cons h1, h2, h3]
    rfl
theorem ref_holds (k : Int) (p s : ByteArray) (n : Nat) (hn : p.size + s.size + 4 ≤ n) (hp : p.size ≤ 1000) (hs1 : s.size ≤ 1000) : tollref03_Holds.f n k p s = some (holdsP k (os p) (os s)) := by
  have hps := size_os p
  have hss := size_os s
  unfold tollref03_Holds.f holdsP
  rw [ref_may k p n (by omega) hp, Option.bind_some, ref_is s n (by omega) hs1, Option.bind_some]
  obtain ⟨n, rfl⟩ : ∃ m, n = m + 1 := ⟨n - 1, by omega⟩
  simp only [tollref03_Holds.j0]
  cases h1 : mayP k (os p)
  · rw [if_neg (by simp), if_pos trivial]; rfl
  rw [if_pos rfl]
  cases h2 : isPath (os s)
  · rfl
  show (if false = true then _ else _) = _
  rw [if_neg (by simp), toList_os, toList_os]
  obtain ⟨hip, hk⟩ := mayP_kind h1
  have hlen := isPath_len hip
  by_cases h3 : os p = os s
  · rw [if_pos h3, h3]; simp
  rw [if_neg h3, beq_eq_false_iff_ne.2 h3]
  by_cases h4 : k = 1
  · subst h4; rfl
  rw [if_neg h4]
  obtain ⟨rfl, hab⟩ : k = 2 ∧ above (os p) = true := by
    rcases hk with hk | hk
    · exact absurd hk h4
    · exact hk
  by_cases h5 : (p.size : Int) = 1
  · rw [if_pos h5]
    obtain ⟨r, hr⟩ := isPath_head hip
    have : r = [] := List.eq_nil_of_length_eq_zero (by rw [hr, List.length_cons] at hps; omega)
    rw [hr, this]; rfl
  rw [if_neg h5]
  have h6 : (os p == [47]) = false := by
    rw [beq_eq_false_iff_ne]
    intro hc
    rw [hc, List.length_singleton] at hps
    omega
  rw [h6, prefix_slash]
  by_cases h7 : (s.size : Int) > (p.size : Int)
  · rw [if_pos h7, if_pos (by omega), if_pos (by omega), toList_os, os_extract, bt_os, decide_eq_true (show (os p).length < (os s).length by omega), List.drop_zero, Nat.sub_zero, hps]
    by_cases h8 : (os s).take (os p).length = os p
    · rw [if_pos h8, if_pos (by omega), h8]
      simp only [Bool.true_and, beq_self_eq_true, Bool.false_or]
      congr 1
      generalize (os s)[(os p).length]?.getD 0 = c
      rw [Bool.eq_iff_iff, beq_iff_eq, beq_iff_eq]
      constructor
      · intro h; apply UInt8.toNat_inj.1; show c.toNat = 47; omega
      · intro h; rw [h]; rfl
    · rw [if_neg h8, beq_eq_false_iff_ne.2 h8]; rfl
  · rw [if_neg h7, decide_eq_false (show ¬ (os p).length < (os s).length by omega)]; rfl

noncomputable def tailP (p s : List UInt8) : List UInt8 := if p = [47] then (if s = [47] then [] else s) else s.drop p.length
noncomputable def swapP (k : Int) (p w s : List UInt8) : List UInt8 × Int :=
  if k = 2 ∧ holdsP k p s = true ∧ above w = true then
    (if w = [47] then (if tailP p s = [] then ([47], 0) else (tailP p s, 0)) else if w.length + (tailP p s).length > 60 then ([], 5) else (w ++ tailP p s, 0))
  else ([], 1)
theorem above_path {l : List UInt8} (h : above l = true) : isPath l = true := by
  unfold above at h
  simp only [Bool.and_eq_true] at h
  exact h.1
theorem holdsP_cases {k : Int} {p s : List UInt8} (h : holdsP k p s = true) : mayP k p = true ∧ isPath s = true ∧ (p = s ∨ k = 2 ∧ (p = [47] ∨ p ++ [47] <+: s)) := by
  unfold holdsP at h
  simp only [Bool.or_eq_true, Bool.and_eq_true, beq_iff_eq, List.isPrefixOf_iff_prefix] at h
  exact ⟨h.1.1, h.1.2, h.2⟩
theorem holdsP_prefix {k : Int} {p s : List UInt8} (h : holdsP k p s = true) : p <+: s := by
  obtain ⟨_, h2, h3⟩ := holdsP_cases h
  rcases h3 with rfl | ⟨_, rfl | h3⟩
  · exact List.prefix_refl _
  · obtain ⟨r, rfl⟩ := isPath_head h2
    exact ⟨r, rfl⟩
  · exact (List.prefix_append _ _).trans h3
theorem path_tail_f (k : Int) (p s : ByteArray) (h : os p <+: os s) : ∃ t, path_tail.f k p s = some t ∧ os t = tailP (os p) (os s) := by
  have hps := size_os p
  have hss := size_os s
  have hl := h.length_le
  unfold path_tail.f tailP
  rw [toList_os, toList_os]
  by_cases h1 : os p = [47]
  · rw [if_pos h1, if_pos h1]
    by_cases h2 : os s = [47]
    · rw [if_pos h2, if_pos h2]; exact ⟨_, rfl, rfl⟩
    · rw [if_neg h2, if_neg h2]; exact ⟨_, rfl, rfl⟩
  · rw [if_neg h1, if_neg h1, if_pos (by omega), if_pos (by omega)]
    refine ⟨_, rfl, ?_⟩
    rw [os_extract, hps, List.take_of_length_le (by rw [List.length_drop]; omega)]
theorem path_swap (k : Int) (p w s : ByteArray) (n : Nat) (hn : 3 ≤ n) (hp : p.size ≤ 1000) (hw : w.size ≤ 1000) (hs1 : s.size ≤ 1000) :
    ∃ t e, path_Swap.f n k p w s = some (t, e) ∧ (os t, e) = swapP k (os p) (os w) (os s) := by
  have hws := size_os w
  obtain ⟨n, rfl⟩ : ∃ m, n = m + 2 := ⟨n - 2, by omega⟩
  unfold path_Swap.f swapP
  by_cases h1 : k = 2
  · subst h1
    rw [if_pos rfl, path_holds 2 p s (n + 2) (by omega) hp, Option.bind_some, path_above_f w hw, Option.bind_some]
    simp only [path_Swap.j0]
    cases h2 : holdsP 2 (os p) (os s)
    · rw [if_neg (by simp), if_pos trivial, if_neg (by simp)]; exact ⟨_, _, rfl, rfl⟩
    rw [if_pos rfl]
    cases h3 : above (os w)
    · rw [if_pos (by rfl), if_neg (by simp)]; exact ⟨_, _, rfl, rfl⟩
    rw [if_neg (show ¬ ((!true) = true) by decide), if_pos (show True ∧ true = true ∧ true = true from ⟨trivial, rfl, rfl⟩)]
    obtain ⟨t, ht, hto⟩ := path_tail_f 2 p s (holdsP_prefix h2)
    have hts := size_os t
    rw [ht, Option.bind_some, toList_os, toList_os, ← hto]
    simp only [path_Swap.j1, toList_os]
    by_cases h4 : os w = [47]
    · simp only [if_pos h4]
      by_cases h5 : os t = []
      · rw [if_pos h5, h5, if_pos (by rfl)]; exact ⟨_, _, rfl, rfl⟩
      · rw [if_neg h5, if_neg (by simpa using h5)]; exact ⟨_, _, rfl, rfl⟩
    · simp only [if_neg h4]
      rw [if_neg (by simp)]
      have htl : (os t).length ≤ 1000 := by
        rw [hto]
        unfold tailP
        have hss := size_os s
        split
        · split
          · simp
          · omega
        · rw [List.length_drop]; omega
      rw [wrap64_id (by omega) (by omega)]
      by_cases h6 : (os w).length + (os t).length > 60
      · rw [if_pos (by omega), if_pos h6]; exact ⟨_, _, rfl, rfl⟩
      · rw [if_neg (by omega), if_neg h6, if_pos (by omega)]
        exact ⟨_, _, rfl, by rw [os_append]⟩
  · rw [if_neg h1, if_neg (fun h => h1 h.1)]
    simp only [path_Swap.j0]
    rw [if_pos trivial]
    exact ⟨_, _, rfl, rfl⟩
theorem ref_swap (k : Int) (p w s : ByteArray) (n : Nat) (hn : p.size + w.size + s.size + 9 ≤ n) (hp : p.size ≤ 1000) (hw : w.size ≤ 1000) (hs1 : s.size ≤ 1000) :
    ∃ t e, tollref03_Swap.f n k p w s = some (t, e) ∧ (os t, e) = swapP k (os p) (os w) (os s) := by
  have hws := size_os w
  have hps := size_os p
  have hss := size_os s
  obtain ⟨n, rfl⟩ : ∃ m, n = m + 3 := ⟨n - 3, by omega⟩
  unfold tollref03_Swap.f swapP
  by_cases h1 : k = 2
  · subst h1
    rw [if_pos rfl, ref_holds 2 p s (n + 3) (by omega) hp hs1, Option.bind_some, ref_above w (n + 3) (by omega) hw, Option.bind_some]
    simp only [tollref03_Swap.j0]
    cases h2 : holdsP 2 (os p) (os s)
    · rw [if_neg (by simp), if_pos trivial, if_neg (by simp)]; exact ⟨_, _, rfl, rfl⟩
    rw [if_pos rfl]
    cases h3 : above (os w)
    · rw [if_pos (by rfl), if_neg (by simp)]; exact ⟨_, _, rfl, rfl⟩
    rw [if_neg (show ¬ ((!true) = true) by decide), if_pos (show True ∧ true = true ∧ true = true from ⟨trivial, rfl, rfl⟩)]
    obtain ⟨hm, hip, hpc⟩ := holdsP_cases h2
    obtain ⟨hpp, _⟩ := mayP_kind hm
    have hpl := isPath_len hpp
    have hsl := isPath_len hip
    have hwl := isPath_len (above_path h3)
    have hpre := (holdsP_prefix h2).length_le
    have one : ∀ l : List UInt8, isPath l = true → (l = [47] ↔ l.length = 1) := by
      intro l hl
      obtain ⟨r, rfl⟩ := isPath_head hl
      constructor
      · intro h; rw [h]; rfl
      · intro h
        have : r = [] := List.eq_nil_of_length_eq_zero (by rw [List.length_cons] at h; omega)
        rw [this]
    -- behind the tail
    have hj : ∀ t : ByteArray, os t = tailP (os p) (os s) → ∃ u e, tollref03_Swap.j1 (n + 2) w t = some (u, e) ∧ (os u, e) = (if os w = [47] then (if tailP (os p) (os s) = [] then ([47], 0) else (tailP (os p) (os s), 0)) else if (os w).length + (tailP (os p) (os s)).length > 60 then ([], 5) else (os w ++ tailP (os p) (os s), 0)) := by
      intro t ht
      have hts := size_os t
      rw [← ht]
      have htl : (os t).length ≤ 60 := by
        rw [ht]
        unfold tailP
        split
        · split
          · simp
          · omega
        · rw [List.length_drop]; omega
      simp only [tollref03_Swap.j1, tollref03_Swap.j2, toList_os]
      by_cases h4 : os w = [47]
      · have hw1 : (os w).length = 1 := by rw [h4]; rfl
        rw [if_pos h4, if_neg (by omega)]
        by_cases h5 : os t = []
        · rw [if_pos h5, if_pos h5, if_neg (by omega)]; exact ⟨_, _, rfl, by rw [h4]⟩
        · rw [if_neg h5, if_neg h5, if_neg (by omega)]; exact ⟨_, _, rfl, rfl⟩
      · have hw1 : (os w).length ≠ 1 := fun h => h4 ((one _ (above_path h3)).2 h)
        rw [if_neg h4, if_pos (by omega), if_pos (by omega)]
        have hal : (os (w ++ t)).length = (os w).length + (os t).length := by rw [os_append, List.length_append]
        have has := size_os (w ++ t)
        have hne : os (w ++ t) ≠ [] := by intro h; rw [h, List.length_nil] at hal; omega
        rw [if_neg hne]
        by_cases h6 : (os w).length + (os t).length > 60
        · rw [if_pos (by omega), if_pos h6]; exact ⟨_, _, rfl, rfl⟩
        · rw [if_neg (by omega), if_neg h6]; exact ⟨_, _, rfl, by rw [os_append]⟩
    by_cases h7 : (p.size : Int) > 1
    · rw [if_pos h7, if_pos (by omega), if_pos (by omega)]
      refine hj _ ?_
      have h8 : os p ≠ [47] := fun h => by have := (one _ hpp).1 h; omega
      rw [os_extract, hps, List.take_of_length_le (by rw [List.length_drop]; omega)]
      unfold tailP
      rw [if_neg h8]
    · have h8 : os p = [47] := (one _ hpp).2 (by omega)
      rw [if_neg h7]
      by_cases h9 : (s.size : Int) > 1
      · rw [if_pos h9]
        refine hj _ ?_
        unfold tailP
        rw [if_pos h8, if_neg (fun h => by have := (one _ hip).1 h; omega)]
      · rw [if_neg h9]
        refine hj _ ?_
        unfold tailP
        rw [if_pos h8, if_pos ((one _ hip).2 (by omega))]
  · rw [if_neg h1, if_neg (fun h => h1 h.1)]
    simp only [tollref03_Swap.j0]
    rw [if_pos trivial]
    exact ⟨_, _, rfl, rfl⟩

end Go.Proofs.YtfdopmjgiakcdaaGreatDoor.L
namespace Go.Proofs.YtfdopmjgiakcdaaGreatDoor.L
open Go Go.RowKit Go.Proofs.YtfdopmjgiakcdaaGreatDoor.P Go.Proofs.YtfdopmjgiakcdaaGreatDoorW.PrintWords Go.Proofs.YtfdopmjgiakcdaaGreatDoorW.PrintLast

abbrev PT := S59
noncomputable def nb (s : ByteArray) : List UInt8 := (os s).map dns_Fold.b
noncomputable def eqN (a b : ByteArray) : Bool := nb a == nb b
noncomputable def Small (m : Nat) (l : List PT) : Prop := l.length ≤ m ∧ ∀ x ∈ l, (os x.f0).length ≤ 100 ∧ (os x.f1).length ≤ 100
theorem Small.mono {m m' : Nat} {l : List PT} (h : Small m l) (hm : m ≤ m') : Small m' l := ⟨Nat.le_trans h.1 hm, h.2⟩
theorem Small.filter {m : Nat} {l : List PT} (h : Small m l) (p : PT → Bool) : Small m (l.filter p) := ⟨Nat.le_trans (List.length_filter_le _ _) h.1, fun x hx => h.2 x (List.mem_filter.1 hx).1⟩

noncomputable def few (s : ByteArray) : ByteArray := if s.size > 100 then s.extract 0 100 else s
theorem few_eq (s : ByteArray) : tolllaw01_Few.f s = some (few s) := by
  unfold tolllaw01_Few.f few
  by_cases h : s.size > 100
  · rw [if_pos (by omega), if_pos (by decide), if_pos (by omega), if_pos h]
  · rw [if_neg (by omega), if_neg h]
theorem few_len (s : ByteArray) : (os (few s)).length ≤ 100 := by
  have hs := size_os s
  unfold few
  by_cases h : s.size > 100
  · rw [if_pos h, os_extract, List.length_take]; omega
  · rw [if_neg h]; omega
theorem few_id {s : ByteArray} (h : (os s).length ≤ 100) : few s = s := by
  have hs := size_os s
  unfold few
  rw [if_neg (by omega)]
noncomputable def few1 (x : PT) : PT := ⟨few x.f0, few x.f1⟩
noncomputable def fewL (l : List PT) : List PT := (l.take 31).map few1
theorem rd_at (l : List PT) (i : Nat) (h : i < l.length) : rd_T59 l (i : Int) = l[i] := by
  unfold rd_T59
  rw [Int.toNat_natCast, getD_at _ _ h]
theorem fewL_loop (l : List PT) : ∀ (n i k : Nat) (acc : List PT), 31 - i ≤ n → i ≤ 31 → i ≤ l.length → acc.length ≤ 1000 + i → 2 * n + 2 ≤ k → tolllaw05_Few.l0 k l acc (i : Int) = some (acc ++ ((l.drop i).take (31 - i)).map few1) := by
  intro n
  induction n with
  | zero =>
    intro i k acc h1 h2 h3 h4 h5
    obtain ⟨k, rfl⟩ : ∃ m, k = m + 2 := ⟨k - 2, by omega⟩
    obtain rfl : i = 31 := by omega
    have e : tolllaw05_Few.j1 (k + 1) l acc ((31 : Nat) : Int) false = some acc := by rw [tolllaw05_Few.j1]; rfl
    have e' : tolllaw05_Few.j1 (k + 1) l acc 31 false = some acc := e
    rw [tolllaw05_Few.l0]
    split <;> simp [e']
  | succ n ih =>
    intro i k acc h1 h2 h3 h4 h5
    obtain ⟨k, rfl⟩ : ∃ m, k = m + 2 := ⟨k - 2, by omega⟩
    have e : tolllaw05_Few.j1 (k + 1) l acc (i : Int) false = some acc := by rw [tolllaw05_Few.j1]; rfl
    rw [tolllaw05_Few.l0]
    by_cases hl : i < l.length
    · rw [if_pos (by omega)]
      by_cases h31 : i < 31
      · rw [show decide ((i : Int) < 31) = true from decide_eq_true (by omega), tolllaw05_Few.j1, if_pos rfl, if_pos (by omega), if_pos (by omega), rd_at l i hl, few_eq, Option.bind_some, few_eq, Option.bind_some, if_pos (by omega), wrap64_id (by omega) (by omega), show (i : Int) + 1 = ((i + 1 : Nat) : Int) by omega, ih (i + 1) k _ (by omega) (by omega) (by omega) (by rw [List.length_append, List.length_singleton]; omega) (by omega)]
        rw [List.append_assoc, show 31 - i = (31 - (i + 1)) + 1 by omega, List.drop_eq_getElem_cons hl, List.take_succ_cons, List.map_cons]
        rfl
      · obtain rfl : i = 31 := by omega
        rw [show decide (((31 : Nat) : Int) < 31) = false from rfl, e]; rw [Nat.sub_self, List.take_zero]; simp
    · obtain rfl : i = l.length := by omega
      rw [if_neg (by omega), e]; simp
theorem fewL_eq (l : List PT) (k : Nat) (hk : 70 ≤ k) : tolllaw05_Few.f k l = some (fewL l) := by
  unfold tolllaw05_Few.f fewL
  have := fewL_loop l 31 0 k [] (by omega) (by omega) (by omega) (by simp) (by omega)
  simpa using this
theorem fewL_small (l : List PT) : Small 31 (fewL l) := by
  refine ⟨by unfold fewL; rw [List.length_map, List.length_take]; omega, fun x hx => ?_⟩
  obtain ⟨y, _, rfl⟩ := List.mem_map.1 hx
  exact ⟨few_len _, few_len _⟩
theorem fewL_id {l : List PT} (h : Small 31 l) : fewL l = l := by
  unfold fewL
  rw [List.take_of_length_le h.1]
  conv => rhs; rw [← List.map_id l]
  refine List.map_congr_left fun x hx => ?_
  show (⟨few x.f0, few x.f1⟩ : PT) = x
  rw [few_id (h.2 x hx).1, few_id (h.2 x hx).2]

theorem fold_p (s : ByteArray) (h : (os s).length ≤ 1000) : dns_Fold.f s = some ⟨(nb s).toArray⟩ := by
  have hs := size_os s
  unfold dns_Fold.f
  rw [if_pos (by omega)]
  rfl
theorem same_p (a b : ByteArray) (ha : (os a).length ≤ 1000) (hb : (os b).length ≤ 1000) : pairs_Same.f a b = some (eqN a b) := by
  unfold pairs_Same.f eqN
  rw [fold_p a ha, Option.bind_some, fold_p b hb, Option.bind_some, toList_os, toList_os]
theorem nums1 (c : Int) : os (strOfNums [c]) = [UInt8.ofNat c.toNat] := rfl
theorem foldR_loop (s : ByteArray) (hs : (os s).length ≤ 1000) : ∀ (n i k : Nat) (acc : ByteArray), (os s).length - i ≤ n → i ≤ (os s).length → (os acc).length ≤ 1000 + i → n + 1 ≤ k → ∃ t, tollref01_Fold.l0 k s acc (i : Int) = some t ∧ os t = os acc ++ ((os s).drop i).map dns_Fold.b := by
  have hsz := size_os s
  intro n
  induction n with
  | zero =>
    intro i k acc h1 h2 h3 h4
    obtain ⟨k, rfl⟩ : ∃ m, k = m + 1 := ⟨k - 1, by omega⟩
    rw [tollref01_Fold.l0, if_neg (by omega)]
    refine ⟨_, rfl, ?_⟩
    rw [List.drop_eq_nil_of_le (by omega)]; simp
  | succ n ih =>
    intro i k acc h1 h2 h3 h4
    obtain ⟨k, rfl⟩ : ∃ m, k = m + 1 := ⟨k - 1, by omega⟩
    by_cases hi : i < (os s).length
    · have hacc := size_os acc
      have hb : bt s (i : Int) = (((os s)[i]'hi).toNat : Int) := by rw [bt_os, List.getElem?_eq_getElem hi]; rfl
      have hlt := ((os s)[i]'hi).toNat_lt
      have step : ∀ c : Int, UInt8.ofNat c.toNat = dns_Fold.b ((os s)[i]'hi) → ∃ t, ((some (([c] : List Int) : List Int)).bind fun y => (if acc.size + (strOfNums y).size ≤ 9223372036854775807 then (tollref01_Fold.l0 k s (acc ++ (strOfNums y)) (wrap64 ((i : Int) + 1))) else (none))) = some t ∧ os t = os acc ++ ((os s).drop i).map dns_Fold.b := by
        intro c hc
        rw [Option.bind_some, if_pos (by rw [strOfNums_size]; simp; omega), wrap64_id (by omega) (by omega), show (i : Int) + 1 = ((i + 1 : Nat) : Int) by omega]
        obtain ⟨t, e, ht⟩ := ih (i + 1) k (acc ++ strOfNums [c]) (by omega) (by omega) (by rw [os_append, nums1, List.length_append, List.length_singleton]; omega) (by omega)
        refine ⟨t, e, ?_⟩
        rw [ht, os_append, nums1, List.drop_eq_getElem_cons hi, List.map_cons, hc, List.append_assoc]
        rfl
      rw [tollref01_Fold.l0, if_pos (by omega), if_pos (by omega)]
      rw [hb]
      by_cases c1 : (65 : Int) ≤ (((os s)[i]'hi).toNat : Int)
      · rw [if_pos c1]
        by_cases c2 : (((os s)[i]'hi).toNat : Int) ≤ 90
        · rw [if_pos c2]
          refine step _ ?_
          unfold dns_Fold.b
          rw [if_pos (by omega)]
          congr 1
          omega
        · rw [if_neg c2]
          refine step _ ?_
          unfold dns_Fold.b
          rw [if_neg (by omega), Int.toNat_natCast, UInt8.ofNat_toNat]
      · rw [if_neg c1]
        refine step _ ?_
        unfold dns_Fold.b
        rw [if_neg (by omega), Int.toNat_natCast, UInt8.ofNat_toNat]
    · rw [tollref01_Fold.l0, if_neg (by omega)]
      refine ⟨_, rfl, ?_⟩
      rw [List.drop_eq_nil_of_le (by omega)]; simp
theorem same_r (a b : ByteArray) (k : Nat) (hk : 200 ≤ k) (ha : (os a).length ≤ 100) (hb : (os b).length ≤ 100) : tollref05_Same.f k a b = some (eqN a b) := by
  unfold tollref05_Same.f tollref01_Fold.f eqN
  obtain ⟨t, e, ht⟩ := foldR_loop a (by omega) 100 0 k ⟨#[]⟩ (by omega) (by omega) (by simp) (by omega)
  obtain ⟨u, e', hu⟩ := foldR_loop b (by omega) 100 0 k ⟨#[]⟩ (by omega) (by omega) (by simp) (by omega)
  have e1 : tollref01_Fold.l0 k a ⟨#[]⟩ 0 = some t := e
  have e2 : tollref01_Fold.l0 k b ⟨#[]⟩ 0 = some u := e'
  rw [e1, Option.bind_some, e2, Option.bind_some, toList_os, toList_os, ht, hu]
  rfl

theorem pOf_p {n : ByteArray} (hn : (os n).length ≤ 100) {x : PT} (hx : (os x.f0).length ≤ 100) : pOf pairs_Same.f n x = eqN x.f0 n := by
  unfold pOf
  rw [same_p _ _ (by omega) (by omega)]
  cases eqN x.f0 n <;> rfl
theorem qAll_p {n : ByteArray} (hn : (os n).length ≤ 100) {m : Nat} {l : List PT} (hl : Small m l) : qAll pairs_Same.f l n = true :=
  List.all_eq_true.2 fun x hx => by rw [same_p _ _ (by have := (hl.2 x hx).1; omega) (by omega)]; rfl
theorem filter_p {n : ByteArray} (hn : (os n).length ≤ 100) {m : Nat} {l : List PT} (hl : Small m l) : (l.filter fun x => !pOf pairs_Same.f n x) = l.filter fun x => !eqN x.f0 n :=
  List.filter_congr fun x hx => by rw [pOf_p hn (hl.2 x hx).1]
theorem drop_p {n : ByteArray} (hn : (os n).length ≤ 100) {m : Nat} {l : List PT} (hl : Small m l) (hm : m ≤ 1000) : pairs_Drop.f l n = some (l.filter fun x => !eqN x.f0 n) := by
  unfold pairs_Drop.f
  rw [if_pos ⟨qAll_p hn hl, by have := hl.1; omega⟩, filter_p hn hl]
theorem add_p (n v : ByteArray) {m : Nat} {l : List PT} (hl : Small m l) (hm : m ≤ 1000) : pairs_Add.f l n v = some (l ++ [⟨n, v⟩]) := by
  have := hl.1
  unfold pairs_Add.f api_Pair_101.f
  rw [if_pos (by omega), Option.bind_some, if_pos (by omega)]
theorem idxI_two {α : Type} (p : α → Bool) (l : List α) : (idxI p l = -1 ∧ ∀ x ∈ l, p x = false) ∨ ∃ (k : Nat) (hk : k < l.length), idxI p l = (k : Int) ∧ p (l[k]'hk) = true ∧ ∀ j (hj : j < k), p (l[j]'(by omega)) = false := by
  by_cases h : l.any p = true
  · have hlt : l.findIdx p < l.length := List.findIdx_lt_length_of_exists (by obtain ⟨x, hx, hp⟩ := List.any_eq_true.1 h; exact ⟨x, hx, hp⟩)
    have h2 := (List.findIdx_eq hlt).1 rfl
    refine .inr ⟨_, hlt, by unfold idxI; rw [if_pos h], h2.1, fun j hj => by simpa using h2.2 j hj⟩
  · refine .inl ⟨by unfold idxI; rw [if_neg h], fun x hx => ?_⟩
    have h' : l.any p = false := by simpa using h
    simpa using List.any_eq_false.1 h' x hx
theorem idxI_congr {α : Type} {p q : α → Bool} {l : List α} (h : ∀ x ∈ l, p x = q x) : idxI p l = idxI q l := by
  rcases idxI_two p l with ⟨e, ha⟩ | ⟨k, hk, e, h1, h0⟩
  · rw [e, idxI_miss q l (fun j hj => by rw [← h _ (List.getElem_mem hj)]; exact ha _ (List.getElem_mem hj))]
  · rw [e, idxI_hit q l k hk (fun j hj => by rw [← h _ (List.getElem_mem _)]; exact h0 j hj) (by rw [← h _ (List.getElem_mem _)]; exact h1)]
noncomputable def setL (n v : ByteArray) : List PT → Bool → List PT
  | [], done => if done = true then [] else [⟨n, v⟩]
  | x :: r, done => if eqN x.f0 n = true then (if done = true then setL n v r true else ⟨n, v⟩ :: setL n v r true) else x :: setL n v r done
theorem setL_true (n v : ByteArray) : ∀ l : List PT, setL n v l true = l.filter fun x => !eqN x.f0 n
  | [] => rfl
  | x :: r => by
    rw [setL, setL_true n v r, List.filter_cons]
    cases eqN x.f0 n <;> rfl
theorem setL_skip (n v : ByteArray) : ∀ (p l : List PT), (∀ x ∈ p, eqN x.f0 n = false) → setL n v (p ++ l) false = p ++ setL n v l false
  | [], l, _ => rfl
  | x :: r, l, h => by
    rw [List.cons_append, setL, h x List.mem_cons_self, if_neg (by decide), setL_skip n v r l (fun y hy => h y (List.mem_cons_of_mem _ hy)), List.cons_append]
theorem filter_none (n : ByteArray) (p : List PT) (h : ∀ x ∈ p, eqN x.f0 n = false) : (p.filter fun x => !eqN x.f0 n) = p := List.filter_eq_self.2 fun x hx => by rw [h x hx]; rfl
theorem split_n (n : ByteArray) (l : List PT) : (∀ x ∈ l, eqN x.f0 n = false) ∨ ∃ p x r, l = p ++ x :: r ∧ eqN x.f0 n = true ∧ ∀ y ∈ p, eqN y.f0 n = false := by
  induction l with
  | nil => exact .inl (fun x hx => by cases hx)
  | cons a r ih =>
    cases h : eqN a.f0 n with
    | true => exact .inr ⟨[], a, r, rfl, h, fun y hy => by cases hy⟩
    | false =>
      rcases ih with ih | ⟨p, x, r', e, h1, h2⟩
      · refine .inl fun x hx => ?_
        rcases List.mem_cons.1 hx with rfl | hx
        · exact h
        · exact ih x hx
      · refine .inr ⟨a :: p, x, r', by rw [e]; rfl, h1, fun y hy => ?_⟩
        rcases List.mem_cons.1 hy with rfl | hy
        · exact h
        · exact h2 y hy
theorem set_p {n : ByteArray} (hn : (os n).length ≤ 100) (v : ByteArray) {m : Nat} {l : List PT} (hl : Small m l) (hm : m ≤ 1000) : pairs_Set.f l n v = some (setL n v l false) := by
  unfold pairs_Set.f
  rw [if_pos (qAll_p hn hl), idxI_congr (fun x hx => pOf_p hn (hl.2 x hx).1)]
  rcases split_n n l with h | ⟨p, x, r, rfl, h1, h0⟩
  · rw [idxI_miss _ l (fun j hj => h _ (List.getElem_mem hj)), if_pos (by decide), add_p n v hl hm]
    have := setL_skip n v l [] h
    rw [List.append_nil] at this
    rw [this]; rfl
  · have hi : idxI (fun x : PT => eqN x.f0 n) (p ++ x :: r) = (p.length : Int) := idxI_hit _ _ p.length (by simp) (fun j hj => by rw [List.getElem_append_left hj]; exact h0 _ (List.getElem_mem hj)) (by simpa using h1)
    rw [hi, if_neg (by omega), drop_p hn hl hm, setL_skip n v p _ h0, Int.toNat_natCast, List.filter_append, filter_none n p h0, setL, if_pos h1, if_neg (by decide), setL_true]
    simp [h1]
theorem setL_small {n v : ByteArray} (hn : (os n).length ≤ 100) (hv : (os v).length ≤ 100) {m : Nat} {l : List PT} (hl : Small m l) : Small (m + 1) (setL n v l false) := by
  rcases split_n n l with h | ⟨p, x, r, rfl, h1, h0⟩
  · have := setL_skip n v l [] h
    rw [List.append_nil] at this
    rw [this]
    refine ⟨by have := hl.1; simp [setL]; omega, fun y hy => ?_⟩
    rcases List.mem_append.1 hy with hy | hy
    · exact hl.2 y hy
    · rw [show setL n v [] false = [⟨n, v⟩] from rfl, List.mem_singleton] at hy
      rw [hy]; exact ⟨hn, hv⟩
  · rw [setL_skip n v p _ h0, setL, if_pos h1, if_neg (by decide), setL_true]
    have h3 := List.length_filter_le (fun x : PT => !eqN x.f0 n) r
    have h4 := hl.1
    rw [List.length_append, List.length_cons] at h4
    refine ⟨by rw [List.length_append, List.length_cons]; omega, fun y hy => ?_⟩
    rcases List.mem_append.1 hy with hy | hy
    · exact hl.2 y (List.mem_append_left _ hy)
    · rcases List.mem_cons.1 hy with rfl | hy
      · exact ⟨hn, hv⟩
      · exact hl.2 y (List.mem_append_right _ (List.mem_cons_of_mem _ (List.mem_filter.1 hy).1))

theorem wrapS {i : Nat} (h : i ≤ 100000) : wrap64 ((i : Int) + 1) = ((i + 1 : Nat) : Int) := by rw [wrap64_id (by omega) (by omega)]; omega
theorem same4_loop (l : List PT) (hl : l.length ≤ 10000) : ∀ (n i k : Nat), l.length - i ≤ n → i ≤ l.length → n + 1 ≤ k → tollref04_Same.l0 k l l (i : Int) = some true := by
  intro n
  induction n with
  | zero =>
    intro i k h1 h2 h3
    obtain ⟨k, rfl⟩ : ∃ m, k = m + 1 := ⟨k - 1, by omega⟩
    rw [tollref04_Same.l0, if_neg (by omega)]
  | succ n ih =>
    intro i k h1 h2 h3
    obtain ⟨k, rfl⟩ : ∃ m, k = m + 1 := ⟨k - 1, by omega⟩
    rw [tollref04_Same.l0]
    by_cases hi : i < l.length
    · rw [if_pos (by omega), if_pos (by omega), if_pos (by omega), if_neg (by simp), wrapS (by omega)]
      exact ih (i + 1) k (by omega) (by omega) (by omega)
    · rw [if_neg (by omega)]
theorem same4 (l : List PT) (k : Nat) (hl : l.length ≤ 500) (hk : 600 ≤ k) : tollref04_Same.f k l l = some true := by
  unfold tollref04_Same.f
  rw [if_pos rfl]
  exact same4_loop l (by omega) l.length 0 k (by omega) (by omega) (by omega)
theorem dropR_loop (n : ByteArray) (hn : (os n).length ≤ 100) (l : List PT) (hl : Small 100 l) : ∀ (c i k : Nat) (acc : List PT), l.length - i ≤ c → i ≤ l.length → acc.length ≤ 1000 + i → c + 250 ≤ k → tollref05_Drop.l0 k l n acc (i : Int) = some (acc ++ (l.drop i).filter fun x => !eqN x.f0 n) := by
  have hl1 := hl.1
  intro c
  induction c with
  | zero =>
    intro i k acc h1 h2 h3 h4
    obtain ⟨k, rfl⟩ : ∃ m, k = m + 1 := ⟨k - 1, by omega⟩
    rw [tollref05_Drop.l0, if_neg (by omega), List.drop_eq_nil_of_le (by omega)]; simp
  | succ c ih =>
    intro i k acc h1 h2 h3 h4
    obtain ⟨k, rfl⟩ : ∃ m, k = m + 1 := ⟨k - 1, by omega⟩
    rw [tollref05_Drop.l0]
    by_cases hi : i < l.length
    · have hx := (hl.2 _ (List.getElem_mem hi))
      rw [if_pos (by omega), if_pos (by omega), rd_at l i hi, same_r _ _ k (by omega) hx.1 hn, Option.bind_some, List.drop_eq_getElem_cons hi, List.filter_cons, wrapS (by omega)]
      cases hq : eqN (l[i]'hi).f0 n with
      | true =>
        rw [if_pos rfl, ih (i + 1) k acc (by omega) (by omega) (by omega) (by omega)]; rfl
      | false =>
        rw [if_neg (by decide), if_pos (by omega), ih (i + 1) k _ (by omega) (by omega) (by rw [List.length_append, List.length_singleton]; omega) (by omega), List.append_assoc]; rfl
    · rw [if_neg (by omega), List.drop_eq_nil_of_le (by omega)]; simp
theorem drop_r {n : ByteArray} (hn : (os n).length ≤ 100) {l : List PT} (hl : Small 100 l) (k : Nat) (hk : 400 ≤ k) : tollref05_Drop.f k l n = some (l.filter fun x => !eqN x.f0 n) := by
  have := dropR_loop n hn l hl l.length 0 k [] (by omega) (by omega) (by simp) (by have := hl.1; omega)
  simpa [tollref05_Drop.f] using this
theorem setR_loop (n v : ByteArray) (hn : (os n).length ≤ 100) (l : List PT) (hl : Small 100 l) : ∀ (c i k : Nat) (acc : List PT) (done : Bool), l.length - i ≤ c → i ≤ l.length → acc.length ≤ 1000 + i → c + 250 ≤ k → tollref05_Set.l0 k l n v acc done (i : Int) = some (acc ++ setL n v (l.drop i) done) := by
  have hl1 := hl.1
  intro c
  induction c with
  | zero =>
    intro i k acc done h1 h2 h3 h4
    obtain ⟨k, rfl⟩ : ∃ m, k = m + 1 := ⟨k - 1, by omega⟩
    rw [tollref05_Set.l0, if_neg (by omega), List.drop_eq_nil_of_le (by omega)]
    cases done
    · rw [if_neg (by decide), if_pos (by omega)]; rfl
    · rw [if_pos rfl]; simp [setL]
  | succ c ih =>
    intro i k acc done h1 h2 h3 h4
    obtain ⟨k, rfl⟩ : ∃ m, k = m + 1 := ⟨k - 1, by omega⟩
    rw [tollref05_Set.l0]
    by_cases hi : i < l.length
    · have hx := (hl.2 _ (List.getElem_mem hi))
      rw [if_pos (by omega), if_pos (by omega), rd_at l i hi, same_r _ _ k (by omega) hx.1 hn, Option.bind_some, List.drop_eq_getElem_cons hi, setL, wrapS (by omega)]
      cases hq : eqN (l[i]'hi).f0 n with
      | true =>
        rw [if_pos rfl, if_pos rfl]
        cases done with
        | true => rw [if_pos rfl, if_pos rfl, ih (i + 1) k acc true (by omega) (by omega) (by omega) (by omega)]
        | false => rw [if_neg (by decide), if_pos (by omega), if_neg (by decide), ih (i + 1) k _ true (by omega) (by omega) (by rw [List.length_append, List.length_singleton]; omega) (by omega), List.append_assoc]; rfl
      | false =>
        rw [if_neg (by decide), if_pos (by omega), if_neg (by decide), ih (i + 1) k _ done (by omega) (by omega) (by rw [List.length_append, List.length_singleton]; omega) (by omega), List.append_assoc]; rfl
    · rw [if_neg (by omega), List.drop_eq_nil_of_le (by omega)]
      cases done
      · rw [if_neg (by decide), if_pos (by omega)]; rfl
      · rw [if_pos rfl]; simp [setL]
theorem set_r {n : ByteArray} (hn : (os n).length ≤ 100) (v : ByteArray) {l : List PT} (hl : Small 100 l) (k : Nat) (hk : 400 ≤ k) : tollref05_Set.f k l n v = some (setL n v l false) := by
  have := setR_loop n v hn l hl l.length 0 k [] false (by omega) (by omega) (by simp) (by have := hl.1; omega)
  simpa [tollref05_Set.f] using this
end Go.Proofs.YtfdopmjgiakcdaaGreatDoor.L
namespace Go.Proofs.YtfdopmjgiakcdaaGreatDoor.L
open Go Go.RowKit Go.Proofs.YtfdopmjgiakcdaaGreatDoor.P Go.Proofs.YtfdopmjgiakcdaaGreatDoorW.PrintWords Go.Proofs.YtfdopmjgiakcdaaGreatDoorW.PrintLast

end Go.Proofs.YtfdopmjgiakcdaaGreatDoor.L
namespace Go.Proofs.YtfdopmjgiakcdaaGreatDoor.L
open Go Go.RowKit Go.Proofs.YtfdopmjgiakcdaaGreatDoor.P Go.Proofs.YtfdopmjgiakcdaaGreatDoorW.PrintWords Go.Proofs.YtfdopmjgiakcdaaGreatDoorW.PrintLast

noncomputable def marks : List UInt8 := [33, 35, 36, 37, 38, 39, 42, 43, 45, 46, 94, 95, 96, 124, 126]
noncomputable def tok (c : UInt8) : Bool := (decide (97 ≤ c.toNat ||| 32) && decide (c.toNat ||| 32 ≤ 122)) || ((decide (48 ≤ c.toNat) && decide (c.toNat ≤ 57)) || marks.any (· == c))
noncomputable def tokR (c : UInt8) : Bool := (decide (48 ≤ c.toNat) && decide (c.toNat ≤ 57)) || ((decide (65 ≤ c.toNat) && decide (c.toNat ≤ 90)) || ((decide (97 ≤ c.toNat) && decide (c.toNat ≤ 122)) || marks.any (· == c)))
theorem bits_or : ∀ n : Fin 256, Go.bits .or .u8 ((n : Nat) : Int) 32 = (((n : Nat) ||| 32 : Nat) : Int) := by decide +kernel
theorem bits_or' (c : UInt8) : Go.bits .or .u8 ((c.toNat : Nat) : Int) 32 = ((c.toNat ||| 32 : Nat) : Int) := bits_or ⟨c.toNat, c.toNat_lt⟩
theorem tok_all : ∀ n : Fin 256, tok (UInt8.ofNat n) = tokR (UInt8.ofNat n) := by decide +kernel
theorem tok_eq (c : UInt8) : tok c = tokR c := by
  have := tok_all ⟨c.toNat, c.toNat_lt⟩
  rwa [show UInt8.ofNat ((⟨c.toNat, c.toNat_lt⟩ : Fin 256) : Nat) = c from UInt8.ofNat_toNat] at this
noncomputable def isTok (l : List UInt8) : Bool := l.all tok && (decide (l ≠ []) && decide (l.length ≤ 40))
theorem bt_c {s : ByteArray} {i : Nat} (h : i < (os s).length) : bt s (i : Int) = (((os s)[i]'h).toNat : Int) := by
  rw [bt_os, List.getElem?_eq_getElem h]; rfl
theorem fin_tok (s : ByteArray) : (if os s = ([] : List UInt8) then (some false : Option Bool) else some (decide ((s.size : Int) ≤ 40))) = some (decide (os s ≠ []) && decide ((os s).length ≤ 40)) := by
  have hsz := size_os s
  by_cases h : os s = []
  · rw [if_pos h, h]; rfl
  · rw [if_neg h, show decide (os s ≠ []) = true from decide_eq_true h, Bool.true_and]
    congr 1
    rw [decide_eq_decide]; omega
theorem tok_p_loop (s : ByteArray) (hs : (os s).length ≤ 1000) : ∀ (n i k : Nat), (os s).length - i ≤ n → i ≤ (os s).length → n + 1 ≤ k → pairs_Token.l0 k s (s.size : Int) (i : Int) = some (((os s).drop i).all tok && (decide (os s ≠ []) && decide ((os s).length ≤ 40))) := by
  have hsz := size_os s
  intro n
  induction n with
  | zero =>
    intro i k h1 h2 h3
    obtain ⟨k, rfl⟩ : ∃ m, k = m + 1 := ⟨k - 1, by omega⟩
    rw [pairs_Token.l0, if_neg (by omega), List.drop_eq_nil_of_le (by omega), toList_os, fin_tok]; rfl
  | succ n ih =>
    intro i k h1 h2 h3
    obtain ⟨k, rfl⟩ : ∃ m, k = m + 1 := ⟨k - 1, by omega⟩
    by_cases hi : i < (os s).length
    · rw [pairs_Token.l0, if_pos (by omega), if_pos (by omega), if_pos (by omega), bt_c hi, bits_or', wrapS (by omega), ih (i + 1) k (by omega) (by omega) (by omega), List.drop_eq_getElem_cons hi, List.all_cons]
      generalize (os s)[i]'hi = c
      rw [Bool.and_assoc]
      generalize (((os s).drop (i + 1)).all tok && (decide (os s ≠ []) && decide ((os s).length ≤ 40))) = rest
      have hf : ∀ c : UInt8, strings_IndexByte.f ⟨#[33, 35, 36, 37, 38, 39, 42, 43, 45, 46, 94, 95, 96, 124, 126]⟩ ((c.toNat : Nat) : Int) = some (firstIdx ⟨#[33, 35, 36, 37, 38, 39, 42, 43, 45, 46, 94, 95, 96, 124, 126]⟩ c) := fun c => by
        unfold strings_IndexByte.f stringslite_IndexByte.f
        rw [Option.bind_some, Int.toNat_natCast, show c.toNat.toUInt8 = c from UInt8.ofNat_toNat]
      have hm := firstIdx_nonneg ⟨#[33, 35, 36, 37, 38, 39, 42, 43, 45, 46, 94, 95, 96, 124, 126]⟩ c
      have hmm : (⟨#[33, 35, 36, 37, 38, 39, 42, 43, 45, 46, 94, 95, 96, 124, 126]⟩ : ByteArray).data.toList = marks := rfl
      rw [hmm] at hm
      have ht : tok c = ((decide (97 ≤ c.toNat ||| 32) && decide (c.toNat ||| 32 ≤ 122)) || ((decide (48 ≤ c.toNat) && decide (c.toNat ≤ 57)) || marks.any (· == c))) := rfl
      rw [ht, ← hm, hf]
      simp only [Option.bind_some]
      generalize firstIdx ⟨#[33, 35, 36, 37, 38, 39, 42, 43, 45, 46, 94, 95, 96, 124, 126]⟩ c = x
      generalize c.toNat ||| 32 = y
      generalize c.toNat = z
      by_cases a1 : (97 : Int) ≤ (y : Int) <;> by_cases a2 : (y : Int) ≤ 122 <;> by_cases a3 : (48 : Int) ≤ (z : Int) <;> by_cases a4 : (z : Int) ≤ 57 <;> by_cases a5 : 0 ≤ x <;> simp [a1, a2, a3, a4, a5, ge_iff_le] <;> omega
    · rw [pairs_Token.l0, if_neg (by omega), List.drop_eq_nil_of_le (by omega), toList_os, fin_tok]; rfl
theorem tok_p (s : ByteArray) (hs : (os s).length ≤ 1000) (k : Nat) (hk : 1100 ≤ k) : pairs_Token.f k s = some (isTok (os s)) := by
  have := tok_p_loop s hs (os s).length 0 k (by omega) (by omega) (by omega)
  rw [List.drop_zero] at this
  exact this
theorem tokR_j2 (k : Nat) (s : ByteArray) (i : Int) (a b : Bool) : tollref05_Token.j2 (k + 1) s i a b = if (b || a) = true then tollref05_Token.l0 k s (wrap64 (i + 1)) else some false := by
  rw [tollref05_Token.j2]; cases a <;> cases b <;> rfl
noncomputable def marksI (n : Int) : Bool := decide (n = 33) || (decide (n = 35) || (decide (n = 36) || (decide (n = 37) || (decide (n = 38) || (decide (n = 39) || (decide (n = 42) || (decide (n = 43) || (decide (n = 45) || (decide (n = 46) || (decide (n = 94) || (decide (n = 95) || (decide (n = 96) || (decide (n = 124) || decide (n = 126))))))))))))))
theorem marks_all : ∀ n : Fin 256, marks.any (· == UInt8.ofNat n) = marksI ((n : Nat) : Int) := by decide +kernel
theorem marks_eq (c : UInt8) : marks.any (· == c) = marksI (c.toNat : Int) := by
  have := marks_all ⟨c.toNat, c.toNat_lt⟩
  rwa [show UInt8.ofNat ((⟨c.toNat, c.toNat_lt⟩ : Fin 256) : Nat) = c from UInt8.ofNat_toNat] at this
theorem tokR_j1 (k : Nat) (s : ByteArray) (i n : Int) (a : Bool) : tollref05_Token.j1 (k + 2) s i n a = if (marksI n || a) = true then tollref05_Token.l0 k s (wrap64 (i + 1)) else some false := by
  have hj : ∀ b : Bool, tollref05_Token.j2 (k + 1) s i a b = if (b || a) = true then tollref05_Token.l0 k s (wrap64 (i + 1)) else some false := tokR_j2 k s i a
  rw [tollref05_Token.j1]
  simp only [hj]
  by_cases h33 : n = 33
  · subst h33; rfl
  by_cases h35 : n = 35
  · subst h35; rfl
  by_cases h36 : n = 36
  · subst h36; rfl
  by_cases h37 : n = 37
  · subst h37; rfl
  by_cases h38 : n = 38
  · subst h38; rfl
  by_cases h39 : n = 39
  · subst h39; rfl
  by_cases h42 : n = 42
  · subst h42; rfl
  by_cases h43 : n = 43
  · subst h43; rfl
  by_cases h45 : n = 45
  · subst h45; rfl
  by_cases h46 : n = 46
  · subst h46; rfl
  by_cases h94 : n = 94
  · subst h94; rfl
  by_cases h95 : n = 95
  · subst h95; rfl
  by_cases h96 : n = 96
  · subst h96; rfl
  by_cases h124 : n = 124
  · subst h124; rfl
  rw [if_neg h33, if_neg h35, if_neg h36, if_neg h37, if_neg h38, if_neg h39, if_neg h42, if_neg h43, if_neg h45, if_neg h46, if_neg h94, if_neg h95, if_neg h96, if_neg h124]
  unfold marksI
  simp only [h33, h35, h36, h37, h38, h39, h42, h43, h45, h46, h94, h95, h96, h124, decide_false, Bool.false_or]
  by_cases h126 : n = 126
  · subst h126; rfl
  · rw [show (n == 126) = false from beq_eq_false_iff_ne.2 h126, show decide (n = 126) = false from decide_eq_false h126]
theorem tok_r_loop (s : ByteArray) (hs : (os s).length ≤ 1000) : ∀ (n i k : Nat), (os s).length - i ≤ n → i ≤ (os s).length → 3 * n + 3 ≤ k → tollref05_Token.l0 k s (i : Int) = some (((os s).drop i).all tok && (decide (os s ≠ []) && decide ((os s).length ≤ 40))) := by
  have hsz := size_os s
  have hend : ∀ k, tollref05_Token.l0 (k + 1) s ((os s).length : Int) = some (decide (os s ≠ []) && decide ((os s).length ≤ 40)) := fun k => by
    rw [tollref05_Token.l0, if_neg (by omega)]
    by_cases h : os s = []
    · rw [if_neg (by rw [hsz, h]; decide), h]; rfl
    · have : 1 ≤ (os s).length := by cases hh : os s with | nil => exact absurd hh h | cons => simp
      rw [if_pos (by omega), show decide (os s ≠ []) = true from decide_eq_true h, Bool.true_and]
      congr 1
      rw [decide_eq_decide]; omega
  intro n
  induction n with
  | zero =>
    intro i k h1 h2 h3
    obtain ⟨k, rfl⟩ : ∃ m, k = m + 1 := ⟨k - 1, by omega⟩
    obtain rfl : i = (os s).length := by omega
    rw [hend, List.drop_length]; rfl
  | succ n ih =>
    intro i k h1 h2 h3
    obtain ⟨k, rfl⟩ : ∃ m, k = m + 3 := ⟨k - 3, by omega⟩
    by_cases hi : i < (os s).length
    · rw [tollref05_Token.l0, if_pos (by omega), if_pos (by omega), bt_c hi]
      simp only [tokR_j1]
      rw [wrapS (by omega), ih (i + 1) k (by omega) (by omega) (by omega), List.drop_eq_getElem_cons hi, List.all_cons, tok_eq]
      generalize (os s)[i]'hi = c
      rw [Bool.and_assoc]
      generalize (((os s).drop (i + 1)).all tok && (decide (os s ≠ []) && decide ((os s).length ≤ 40))) = rest
      rw [tokR, marks_eq]
      generalize marksI (c.toNat : Int) = m
      generalize c.toNat = z
      simp only [show ((48 : Int) ≤ (z : Int)) = (48 ≤ z) from propext (by omega), show ((z : Int) ≤ 57) = (z ≤ 57) from propext (by omega), show ((65 : Int) ≤ (z : Int)) = (65 ≤ z) from propext (by omega), show ((z : Int) ≤ 90) = (z ≤ 90) from propext (by omega), show ((97 : Int) ≤ (z : Int)) = (97 ≤ z) from propext (by omega), show ((z : Int) ≤ 122) = (z ≤ 122) from propext (by omega)]
      by_cases a1 : 48 ≤ z <;> by_cases a2 : z ≤ 57 <;> by_cases a3 : 65 ≤ z <;> by_cases a4 : z ≤ 90 <;> by_cases a5 : 97 ≤ z <;> by_cases a6 : z ≤ 122 <;> cases m <;> simp [a1, a2, a3, a4, a5, a6]
    · obtain rfl : i = (os s).length := by omega
      rw [show k + 3 = (k + 2) + 1 from rfl, hend, List.drop_length]; rfl
theorem tok_r (s : ByteArray) (hs : (os s).length ≤ 1000) (k : Nat) (hk : 3100 ≤ k) : tollref05_Token.f k s = some (isTok (os s)) := by
  have := tok_r_loop s hs (os s).length 0 k (by omega) (by omega) (by omega)
  rw [List.drop_zero] at this
  exact this
noncomputable def isVal (l : List UInt8) : Bool := l.all (fun c => decide (32 ≤ c.toNat) && decide (c.toNat ≤ 126)) && (decide (l.length ≤ 40) && (decide (l.head? ≠ some 32) && decide (l.getLast? ≠ some 32)))
theorem trimL (c : UInt8) : ∀ (n k : Nat) (s : ByteArray), (os s).length ≤ n → n + 1 ≤ k → ∃ t, strings_trimLeftByte.l0 k s (c.toNat : Int) = some t ∧ os t = (os s).dropWhile (· == c) := by
  intro n
  induction n with
  | zero =>
    intro k s h1 h2
    have hs := size_os s
    obtain ⟨k, rfl⟩ : ∃ m, k = m + 1 := ⟨k - 1, by omega⟩
    have h0 : os s = [] := List.eq_nil_of_length_eq_zero (by omega)
    rw [strings_trimLeftByte.l0, if_neg (by omega)]
    exact ⟨s, rfl, by rw [h0]; rfl⟩
  | succ n ih =>
    intro k s h1 h2
    have hs := size_os s
    obtain ⟨k, rfl⟩ : ∃ m, k = m + 1 := ⟨k - 1, by omega⟩
    by_cases hp : 0 < (os s).length
    · have hb : bt s 0 = (((os s)[0]'hp).toNat : Int) := bt_c hp
      rw [strings_trimLeftByte.l0, if_pos (by omega), if_pos (by omega), hb]
      obtain ⟨a, r, e⟩ : ∃ a r, os s = a :: r := by
        cases h : os s with
        | nil => rw [h] at hp; simp at hp
        | cons a r => exact ⟨a, r, rfl⟩
      have ha : (os s)[0]'hp = a := by simp [e]
      rw [ha]
      by_cases hc : a = c
      · subst hc
        rw [if_pos rfl, if_pos (by omega)]
        have ht : os (s.extract 1 s.size) = r := by rw [os_extract, e, List.drop_one, List.tail_cons, List.take_of_length_le (by rw [hs, e, List.length_cons]; omega)]
        obtain ⟨t, h3, h4⟩ := ih k (s.extract 1 s.size) (by rw [ht]; rw [e, List.length_cons] at h1; omega) (by omega)
        exact ⟨t, h3, by rw [h4, ht, e, List.dropWhile_cons]; simp⟩
      · rw [if_neg (fun h => hc (UInt8.toNat_inj.1 (by omega)))]
        exact ⟨s, rfl, by rw [e, List.dropWhile_cons]; simp [hc]⟩
    · have h0 : os s = [] := List.eq_nil_of_length_eq_zero (by omega)
      rw [strings_trimLeftByte.l0, if_neg (by omega)]
      exact ⟨s, rfl, by rw [h0]; rfl⟩
theorem trimR (c : UInt8) : ∀ (n k : Nat) (s : ByteArray), (os s).length ≤ n → n ≤ 1000 → n + 1 ≤ k → ∃ t, strings_trimRightByte.l0 k s (c.toNat : Int) = some t ∧ os t = ((os s).reverse.dropWhile (· == c)).reverse := by
  intro n
  induction n with
  | zero =>
    intro k s h1 h2 h3
    have hs := size_os s
    obtain ⟨k, rfl⟩ : ∃ m, k = m + 1 := ⟨k - 1, by omega⟩
    have h0 : os s = [] := List.eq_nil_of_length_eq_zero (by omega)
    rw [strings_trimRightByte.l0, if_neg (by omega)]
    exact ⟨s, rfl, by rw [h0]; rfl⟩
  | succ n ih =>
    intro k s h1 h2 h3
    have hs := size_os s
    obtain ⟨k, rfl⟩ : ∃ m, k = m + 1 := ⟨k - 1, by omega⟩
    by_cases hp : 0 < (os s).length
    · obtain ⟨r, a, e⟩ : ∃ r a, os s = r ++ [a] := ⟨_, _, (List.dropLast_concat_getLast (List.ne_nil_of_length_pos hp)).symm⟩
      have hl : (os s).length = r.length + 1 := by rw [e]; simp
      have hw : wrap64 ((s.size : Int) - 1) = ((r.length : Nat) : Int) := by rw [wrap64_id (by omega) (by omega)]; omega
      have hb : bt s ((r.length : Nat) : Int) = (a.toNat : Int) := by rw [bt_c (by omega)]; simp [e]
      rw [strings_trimRightByte.l0, if_pos (by omega), hw, if_pos (by omega), if_pos (by omega), hb]
      by_cases hc : a = c
      · subst hc
        rw [if_pos rfl, if_pos (by omega)]
        have ht : os (s.extract 0 ((r.length : Nat) : Int).toNat) = r := by rw [os_extract, e, List.drop_zero, Int.toNat_natCast, Nat.sub_zero, List.take_left]
        obtain ⟨t, h4, h5⟩ := ih k (s.extract 0 ((r.length : Nat) : Int).toNat) (by rw [ht]; omega) (by omega) (by omega)
        exact ⟨t, h4, by rw [h5, ht, e]; simp⟩
      · rw [if_neg (fun h => hc (UInt8.toNat_inj.1 (by omega)))]
        exact ⟨s, rfl, by rw [e]; simp [hc]⟩
    · have h0 : os s = [] := List.eq_nil_of_length_eq_zero (by omega)
      rw [strings_trimRightByte.l0, if_neg (by omega)]
      exact ⟨s, rfl, by rw [h0]; rfl⟩
theorem dropWhile_len {α : Type} (p : α → Bool) : ∀ l : List α, (l.dropWhile p).length ≤ l.length ∧ ((l.dropWhile p).length = l.length → l.dropWhile p = l ∧ ∀ a, l.head? = some a → p a = false)
  | [] => ⟨Nat.le_refl _, fun _ => ⟨rfl, fun a h => by cases h⟩⟩
  | a :: r => by
    have ih := dropWhile_len p r
    rw [List.dropWhile_cons]
    cases h : p a with
    | true =>
      simp only [if_true, List.length_cons]
      exact ⟨by omega, fun h => by omega⟩
    | false => exact ⟨Nat.le_refl _, fun _ => ⟨rfl, fun b hb => by cases hb; exact h⟩⟩
theorem dropWhile_id {α : Type} (p : α → Bool) (l : List α) (h : ∀ a, l.head? = some a → p a = false) : l.dropWhile p = l := by
  cases l with
  | nil => rfl
  | cons a r => rw [List.dropWhile_cons, h a rfl]; rfl
theorem trim_p (s : ByteArray) (hs : (os s).length ≤ 1000) (k : Nat) (hk : 1100 ≤ k) : ∃ t, strings_Trim.f k s ⟨#[32]⟩ = some t ∧ (os t == os s) = (decide ((os s).head? ≠ some 32) && decide ((os s).getLast? ≠ some 32)) := by
  unfold strings_Trim.f
  rw [toList_os]
  obtain ⟨k, rfl⟩ : ∃ m, k = m + 2 := ⟨k - 2, by omega⟩
  by_cases h0 : os s = []
  · rw [if_pos h0, strings_Trim.j0, if_pos rfl]
    exact ⟨s, rfl, by rw [h0]; rfl⟩
  · rw [if_neg h0, show ((⟨#[32]⟩ : ByteArray).toList == ([] : List UInt8)) = false from by rw [toList_os]; rfl, strings_Trim.j0, if_neg (by decide), if_pos (by decide), if_pos (by decide), show decide ((bt ⟨#[32]⟩ 0) < 128) = true from by decide, strings_Trim.j1, if_pos rfl, if_pos (by decide)]
    have hb : bt ⟨#[32]⟩ 0 = ((32 : UInt8).toNat : Int) := by decide
    obtain ⟨t, h1, h2⟩ := trimR 32 (os s).length k s (Nat.le_refl _) hs (by omega)
    have hlt : (os t).length ≤ (os s).length := by rw [h2, List.length_reverse]; have := (dropWhile_len (· == (32 : UInt8)) (os s).reverse).1; rwa [List.length_reverse] at this
    obtain ⟨u, h3, h4⟩ := trimL 32 (os t).length k t (Nat.le_refl _) (by omega)
    unfold strings_trimRightByte.f strings_trimLeftByte.f
    rw [hb, h1, Option.bind_some, h3, Option.bind_some]
    refine ⟨u, rfl, ?_⟩
    rw [Bool.eq_iff_iff, beq_iff_eq, Bool.and_eq_true, decide_eq_true_eq, decide_eq_true_eq]
    constructor
    · intro he
      have e1 : (os u).length = (os s).length := by rw [he]
      have d1 := dropWhile_len (· == (32 : UInt8)) (os t)
      rw [← h4] at d1
      have e2 : (os u).length = (os t).length := by omega
      have d2 := dropWhile_len (· == (32 : UInt8)) (os s).reverse
      have e3 : ((os s).reverse.dropWhile (· == (32 : UInt8))).length = (os s).reverse.length := by
        rw [List.length_reverse]
        have := congrArg List.length h2
        rw [List.length_reverse] at this
        omega
      have f1 := (d1.2 e2).2
      have f2 := (d2.2 e3).2
      have e4 : os t = os s := by rw [h2, (d2.2 e3).1, List.reverse_reverse]
      rw [e4] at f1
      refine ⟨fun h => ?_, fun h => ?_⟩
      · have := f1 32 h; simp at this
      · rw [List.head?_reverse] at f2
        have := f2 32 h; simp at this
    · rintro ⟨f1, f2⟩
      have e1 : os t = os s := by
        rw [h2, dropWhile_id, List.reverse_reverse]
        intro a ha
        rw [List.head?_reverse] at ha
        refine beq_eq_false_iff_ne.2 fun e => f2 ?_
        rw [ha, e]
      rw [h4, e1, dropWhile_id]
      intro a ha
      refine beq_eq_false_iff_ne.2 fun e => f1 ?_
      rw [ha, e]
theorem val_p_loop (s : ByteArray) (hs : (os s).length ≤ 1000) : ∀ (n i k : Nat), (os s).length - i ≤ n → i ≤ (os s).length → n + 1101 ≤ k → pairs_Value.l0 k s (s.size : Int) (i : Int) = some (((os s).drop i).all (fun c => decide (32 ≤ c.toNat) && decide (c.toNat ≤ 126)) && (decide ((os s).length ≤ 40) && (decide ((os s).head? ≠ some 32) && decide ((os s).getLast? ≠ some 32)))) := by
  have hsz := size_os s
  have hend : ∀ k, 1100 ≤ k → pairs_Value.l0 (k + 1) s (s.size : Int) ((os s).length : Int) = some (decide ((os s).length ≤ 40) && (decide ((os s).head? ≠ some 32) && decide ((os s).getLast? ≠ some 32))) := fun k hk => by
    rw [pairs_Value.l0, if_neg (by omega)]
    obtain ⟨t, h1, h2⟩ := trim_p s hs k hk
    by_cases h : (os s).length ≤ 40
    · rw [if_pos (by omega), h1, Option.bind_some, toList_os, toList_os, h2, decide_eq_true h, Bool.true_and]
    · rw [if_neg (by omega), decide_eq_false h, Bool.false_and]
  intro n
  induction n with
  | zero =>
    intro i k h1 h2 h3
    obtain ⟨k, rfl⟩ : ∃ m, k = m + 1 := ⟨k - 1, by omega⟩
    obtain rfl : i = (os s).length := by omega
    rw [hend k (by omega), List.drop_length]; rfl
  | succ n ih =>
    intro i k h1 h2 h3
    obtain ⟨k, rfl⟩ : ∃ m, k = m + 1 := ⟨k - 1, by omega⟩
    by_cases hi : i < (os s).length
    · rw [pairs_Value.l0, if_pos (by omega), if_pos (by omega), if_pos (by omega), bt_c hi, wrapS (by omega), ih (i + 1) k (by omega) (by omega) (by omega), List.drop_eq_getElem_cons hi, List.all_cons]
      by_cases a1 : ((os s)[i]'hi).toNat < 32
      · rw [if_pos (by omega), show decide (32 ≤ ((os s)[i]'hi).toNat) = false from decide_eq_false (by omega)]; rfl
      · rw [if_neg (by omega), show decide (32 ≤ ((os s)[i]'hi).toNat) = true from decide_eq_true (by omega)]
        by_cases a2 : ((os s)[i]'hi).toNat > 126
        · rw [if_pos (by omega), show decide (((os s)[i]'hi).toNat ≤ 126) = false from decide_eq_false (by omega)]; rfl
        · rw [if_neg (by omega), show decide (((os s)[i]'hi).toNat ≤ 126) = true from decide_eq_true (by omega)]; rfl
    · obtain rfl : i = (os s).length := by omega
      rw [hend k (by omega), List.drop_length]; rfl
theorem val_p (s : ByteArray) (hs : (os s).length ≤ 1000) (k : Nat) (hk : 2200 ≤ k) : pairs_Value.f k s = some (isVal (os s)) := by
  have := val_p_loop s hs (os s).length 0 k (by omega) (by omega) (by omega)
  rw [List.drop_zero] at this
  exact this
noncomputable def valAt (l : List UInt8) (i : Nat) (c : UInt8) : Bool := (decide (32 ≤ c.toNat) && decide (c.toNat ≤ 126)) && !(decide (c = 32) && (decide (i = 0) || decide (i + 1 = l.length)))
theorem val_r_loop (s : ByteArray) (hs : (os s).length ≤ 1000) : ∀ (n i k : Nat), (os s).length - i ≤ n → i ≤ (os s).length → n + 1 ≤ k → ∃ b, tollref05_Value.l0 k s (i : Int) = some b ∧ (b = true ↔ (os s).length ≤ 40 ∧ ∀ j (hj : j < (os s).length), i ≤ j → valAt (os s) j ((os s)[j]'hj) = true) := by
  have hsz := size_os s
  have hend : ∀ k, ∃ b, tollref05_Value.l0 (k + 1) s ((os s).length : Int) = some b ∧ (b = true ↔ (os s).length ≤ 40 ∧ ∀ j (hj : j < (os s).length), (os s).length ≤ j → valAt (os s) j ((os s)[j]'hj) = true) := fun k => by
    rw [tollref05_Value.l0, if_neg (by omega)]
    refine ⟨_, rfl, ?_⟩
    rw [decide_eq_true_eq]
    exact ⟨fun h => ⟨by omega, fun j hj hj' => by omega⟩, fun h => by have := h.1; omega⟩
  intro n
  induction n with
  | zero =>
    intro i k h1 h2 h3
    obtain ⟨k, rfl⟩ : ∃ m, k = m + 1 := ⟨k - 1, by omega⟩
    obtain rfl : i = (os s).length := by omega
    exact hend k
  | succ n ih =>
    intro i k h1 h2 h3
    obtain ⟨k, rfl⟩ : ∃ m, k = m + 1 := ⟨k - 1, by omega⟩
    by_cases hi : i < (os s).length
    · obtain ⟨b, e, hb⟩ := ih (i + 1) k (by omega) (by omega) (by omega)
      have hno : valAt (os s) i ((os s)[i]'hi) = false → ∃ b, some false = some b ∧ (b = true ↔ (os s).length ≤ 40 ∧ ∀ j (hj : j < (os s).length), i ≤ j → valAt (os s) j ((os s)[j]'hj) = true) := fun h => ⟨false, rfl, ⟨fun hf => Bool.noConfusion hf, fun h' => (by have := h'.2 i hi (Nat.le_refl _); rw [h] at this; cases this)⟩⟩
      have hyes : valAt (os s) i ((os s)[i]'hi) = true → ∃ b', some b = some b' ∧ (b' = true ↔ (os s).length ≤ 40 ∧ ∀ j (hj : j < (os s).length), i ≤ j → valAt (os s) j ((os s)[j]'hj) = true) := fun h => ⟨b, rfl, hb.trans ⟨fun h' => ⟨h'.1, fun j hj hij => by
        rcases Nat.lt_or_ge i j with h4 | h4
        · exact h'.2 j hj (by omega)
        · obtain rfl : i = j := by omega
          exact h⟩, fun h' => ⟨h'.1, fun j hj hij => h'.2 j hj (by omega)⟩⟩⟩
      rw [tollref05_Value.l0, if_pos (by omega), bt_c hi, wrapS (by omega), e]
      have hc : ∀ c : UInt8, ((c.toNat : Int) = 32) ↔ c = 32 := fun c => ⟨fun h => UInt8.toNat_inj.1 (by have : (32 : UInt8).toNat = 32 := rfl; omega), fun h => by rw [h]; rfl⟩
      simp only [hc, show ((i : Int) = 0) = (i = 0) from propext (by omega), show ((i : Int) = wrap64 ((s.size : Int) - 1)) = (i + 1 = (os s).length) from propext (by rw [wrap64_id (by omega) (by omega)]; omega)]
      generalize hcc : (os s)[i]'hi = c at *
      have n1 : ((c.toNat : Int) < 32) = ¬ (32 ≤ c.toNat) := propext (by omega)
      have n2 : ((c.toNat : Int) > 126) = ¬ (c.toNat ≤ 126) := propext (by omega)
      have n3 : ((0 : Int) ≤ (i : Int)) = True := eq_true (by omega)
      simp only [n1, n2, n3, if_true]
      by_cases a4 : i = 0
      · rw [if_pos a4]
        by_cases a1 : 32 ≤ c.toNat
        · rw [if_neg (not_not_intro a1)]
          by_cases a2 : c.toNat ≤ 126
          · rw [if_neg (not_not_intro a2)]
            by_cases a3 : c = 32
            · rw [if_pos a3]; exact hno (by unfold valAt; rw [decide_eq_true a3, decide_eq_true a4]; simp)
            · rw [if_neg a3]; exact hyes (by unfold valAt; rw [decide_eq_true a1, decide_eq_true a2, decide_eq_false a3]; rfl)
          · rw [if_pos a2]; exact hno (by unfold valAt; rw [decide_eq_false a2, Bool.and_false]; rfl)
        · rw [if_pos a1]; exact hno (by unfold valAt; rw [decide_eq_false a1]; rfl)
      · rw [if_neg a4]
        by_cases a1 : 32 ≤ c.toNat
        · rw [if_neg (not_not_intro a1)]
          by_cases a2 : c.toNat ≤ 126
          · rw [if_neg (not_not_intro a2)]
            by_cases a3 : c = 32
            · rw [if_pos a3]
              by_cases a5 : i + 1 = (os s).length
              · rw [if_pos a5]; exact hno (by unfold valAt; rw [decide_eq_true a3, decide_eq_true a5]; simp)
              · rw [if_neg a5]; exact hyes (by unfold valAt; rw [decide_eq_true a1, decide_eq_true a2, decide_eq_false a4, decide_eq_false a5]; simp)
            · rw [if_neg a3]; exact hyes (by unfold valAt; rw [decide_eq_true a1, decide_eq_true a2, decide_eq_false a3]; rfl)
          · rw [if_pos a2]; exact hno (by unfold valAt; rw [decide_eq_false a2, Bool.and_false]; rfl)
        · rw [if_pos a1]; exact hno (by unfold valAt; rw [decide_eq_false a1]; rfl)
    · obtain rfl : i = (os s).length := by omega
      exact hend k
theorem val_r (s : ByteArray) (hs : (os s).length ≤ 1000) (k : Nat) (hk : 1100 ≤ k) : tollref05_Value.f k s = some (isVal (os s)) := by
  obtain ⟨b, e, hb⟩ := val_r_loop s hs (os s).length 0 k (by omega) (by omega) (by omega)
  have e' : tollref05_Value.f k s = some b := e
  rw [e']
  congr 1
  rw [Bool.eq_iff_iff, hb]
  unfold isVal
  simp only [Bool.and_eq_true, decide_eq_true_eq, List.all_eq_true]
  constructor
  · rintro ⟨h1, h2⟩
    have h3 : ∀ j (hj : j < (os s).length), valAt (os s) j ((os s)[j]'hj) = true := fun j hj => h2 j hj (Nat.zero_le _)
    refine ⟨fun c hc => ?_, h1, fun h => ?_, fun h => ?_⟩
    · obtain ⟨j, hj, rfl⟩ := List.getElem_of_mem hc
      have := h3 j hj
      unfold valAt at this
      simp only [Bool.and_eq_true, decide_eq_true_eq] at this
      exact this.1
    · rw [List.head?_eq_getElem?] at h
      obtain ⟨hj, h4⟩ := List.getElem?_eq_some_iff.1 h
      have := h3 0 hj
      rw [h4] at this
      revert this; unfold valAt; simp
    · rw [List.getLast?_eq_getElem?] at h
      obtain ⟨hj, h4⟩ := List.getElem?_eq_some_iff.1 h
      have := h3 _ hj
      rw [h4] at this
      revert this; unfold valAt; simp; omega
  · rintro ⟨h1, h2, h3, h4⟩
    refine ⟨h2, fun j hj _ => ?_⟩
    have hc := h1 _ (List.getElem_mem hj)
    unfold valAt
    rw [decide_eq_true hc.1, decide_eq_true hc.2]
    by_cases a : (os s)[j]'hj = 32
    · have n0 : ¬ j = 0 := fun e => by
        subst e
        exact h3 (by rw [List.head?_eq_getElem?, List.getElem?_eq_getElem hj, a])
      have n1 : ¬ j + 1 = (os s).length := fun e => by
        refine h4 ?_
        rw [List.getLast?_eq_getElem?, show (os s).length - 1 = j by omega, List.getElem?_eq_getElem hj, a]
      rw [decide_eq_false n0, decide_eq_false n1, Bool.or_self, Bool.and_false]; rfl
    · rw [decide_eq_false a]; rfl
end Go.Proofs.YtfdopmjgiakcdaaGreatDoor.L
namespace Go.Proofs.YtfdopmjgiakcdaaGreatDoor.L
open Go Go.RowKit Go.Proofs.YtfdopmjgiakcdaaGreatDoor.P Go.Proofs.YtfdopmjgiakcdaaGreatDoorW.PrintWords Go.Proofs.YtfdopmjgiakcdaaGreatDoorW.PrintLast
theorem wrapN {i : Nat} (h : i ≤ 100000) : wrap64 ((i : Int) + 1) = ((i + 1 : Nat) : Int) := by rw [wrap64_id (by omega) (by omega)]; omega
theorem rdB (l : List ByteArray) (i : Nat) (h : i < l.length) : rdOf ByteArray.empty l (i : Int) = l[i]'h := by
  unfold rdOf
  rw [Int.toNat_natCast, List.getD_eq_getElem?_getD, List.getElem?_eq_getElem h]; rfl
noncomputable def nm (l : List UInt8) : Bool := decide (l.length ≤ 60) && (pieces 46 ⟨l.toArray⟩).all labB
theorem name_p (s : ByteArray) : dns_Name.f s = some (nm (os s)) := by
  unfold dns_Name.f nm
  rw [size_os s]

noncomputable def splitL (c : UInt8) : List UInt8 → List (List UInt8)
  | [] => [[]]
  | x :: r => if x = c then [] :: splitL c r else (x :: (splitL c r).headD []) :: (splitL c r).tail
theorem splitL_ne (c : UInt8) : ∀ l, splitL c l ≠ []
  | [] => by rw [splitL]; simp
  | x :: r => by rw [splitL]; split <;> simp
theorem splitL_cons {c : UInt8} {l : List UInt8} : ∃ h t, splitL c l = h :: t := by
  cases h : splitL c l with
  | nil => exact absurd h (splitL_ne c l)
  | cons a b => exact ⟨a, b, rfl⟩
theorem splitL_free {c : UInt8} : ∀ {u : List UInt8}, c ∉ u → splitL c u = [u]
  | [], _ => rfl
  | x :: r, h => by
    have hx : x ≠ c := fun e => h (by rw [e]; simp)
    rw [splitL, if_neg hx, splitL_free (u := r) (fun hm => h (List.mem_cons_of_mem _ hm))]; rfl
theorem splitL_at {c : UInt8} : ∀ {u : List UInt8} (v : List UInt8), c ∉ u → splitL c (u ++ c :: v) = u :: splitL c v
  | [], v, _ => by rw [List.nil_append, splitL, if_pos rfl]
  | x :: r, v, h => by
    have hx : x ≠ c := fun e => h (by rw [e]; simp)
    rw [List.cons_append, splitL, if_neg hx, splitL_at v (fun hm => h (List.mem_cons_of_mem _ hm))]; rfl
theorem get_bang (s : ByteArray) (i : Nat) (h : i < (os s).length) : s[i]! = (os s)[i]'h := by
  have hs := size_os s
  rw [getElem!_pos s i (by omega)]
  rfl
theorem firstIdx_two (s : ByteArray) (c : UInt8) : (firstIdx s c = -1 ∧ c ∉ os s) ∨ ∃ i : Nat, firstIdx s c = (i : Int) ∧ ∃ h : i < (os s).length, c ∉ (os s).take i ∧ (os s)[i] = c := by
  have hs := size_os s
  unfold firstIdx
  cases hf : (List.range s.size).find? (fun i => s[i]! == c) with
  | none =>
    left
    refine ⟨rfl, fun hm => ?_⟩
    obtain ⟨i, hi, hc⟩ := List.getElem_of_mem hm
    have := List.find?_eq_none.1 hf i (List.mem_range.2 (by omega))
    rw [get_bang s i hi, hc] at this
    simp at this
  | some i =>
    right
    have hi := List.mem_range.1 (List.mem_of_find?_eq_some hf)
    have hil : i < (os s).length := by omega
    refine ⟨i, rfl, hil, fun hm => ?_, ?_⟩
    · obtain ⟨j, hj, hc⟩ := List.getElem_of_mem hm
      rw [List.length_take] at hj
      rw [List.getElem_take] at hc
      have h1 := (List.find?_eq_some_iff_getElem.1 hf).2
      obtain ⟨k, hk, hki, hlt⟩ := h1
      rw [List.length_range] at hk
      rw [List.getElem_range] at hki
      subst hki
      have := hlt j (by omega)
      rw [List.getElem_range, get_bang s j (by omega), hc] at this
      simp at this
    · have := List.find?_some hf
      rw [get_bang s i hil] at this
      exact eq_of_beq this
theorem pieces_p (c : UInt8) : ∀ (n : Nat) (s : ByteArray), (os s).length ≤ n → (pieces c s).map os = splitL c (os s) := by
  intro n
  induction n with
  | zero =>
    intro s h
    rcases firstIdx_two s c with ⟨h1, h2⟩ | ⟨i, _, h2, _⟩
    · unfold pieces
      rw [cuts_neg (by rw [h1]; decide), splitL_free h2]; rfl
    · omega
  | succ n ih =>
    intro s h
    have hs := size_os s
    rcases firstIdx_two s c with ⟨h1, h2⟩ | ⟨i, h1, h2, h3, h4⟩
    · unfold pieces
      rw [cuts_neg (by rw [h1]; decide), splitL_free h2]; rfl
    · have e := cuts_cons (fun t => firstIdx t c) 1 (Nat.le_refl _) (fun t h => firstIdx_fit c t h) (s := s) (i := i) h1
      have e2 : os s = (os s).take i ++ c :: (os s).drop (i + 1) := by
        conv => lhs; rw [← List.take_append_drop i (os s), List.drop_eq_getElem_cons h2, h4]
      have e3 : os (s.extract (i + 1) s.size) = (os s).drop (i + 1) := by rw [os_extract, List.take_of_length_le (by rw [List.length_drop]; omega)]
      have e4 : os (s.extract 0 i) = (os s).take i := by rw [os_extract, List.drop_zero, Nat.sub_zero]
      have := ih (s.extract (i + 1) s.size) (by rw [e3, List.length_drop]; omega)
      unfold pieces at this ⊢
      rw [e, List.map_cons, this, e3, e4]
      conv => rhs; rw [e2]
      rw [splitL_at _ h3]
noncomputable def octL (c : UInt8) : Bool := (decide (97 ≤ c.toNat) && decide (c.toNat ≤ 122)) || ((decide (48 ≤ c.toNat) && decide (c.toNat ≤ 57)) || c.toNat == 45)
noncomputable def labL (l : List UInt8) : Bool := decide (l ≠ []) && (decide (l.length ≤ 20) && (l.all octL && (decide (l.head? ≠ some 45) && decide (l.getLast? ≠ some 45))))
theorem lab_p (s : ByteArray) : labB s = labL (os s) := by
  have hs := size_os s
  have h0 : dns_Label.f s = some (labL (os s)) := by
    unfold dns_Label.f labL strings_IndexFunc_with_dns_Label_1.f
    rw [Option.bind_some, toList_os]
    have hi := idxRune_neg strings_IndexFunc_with_dns_Label_1.p (fun r hr => by
      unfold strings_IndexFunc_with_dns_Label_1.p octB
      rw [decide_eq_false (show ¬ r ≤ 122 by omega), decide_eq_false (show ¬ r ≤ 57 by omega), beq_eq_false_iff_ne.2 (show r ≠ 45 by omega)]
      simp) s
    have hall : (s.data.toList.all fun c => !strings_IndexFunc_with_dns_Label_1.p c.toNat) = (os s).all octL := by
      congr 1
      funext c
      unfold strings_IndexFunc_with_dns_Label_1.p octB octL
      rw [Bool.not_not]
    rw [hall] at hi
    by_cases c1 : os s = []
    · rw [if_pos c1, c1]; rfl
    · rw [if_neg c1, decide_eq_true (show os s ≠ [] from c1), Bool.true_and]
      have hl : 0 < (os s).length := by cases h : os s with | nil => exact absurd h c1 | cons => simp
      by_cases c2 : (os s).length ≤ 20
      · rw [if_pos (by omega), decide_eq_true c2, Bool.true_and, wrap64_id (by omega) (by omega)]
        by_cases c3 : idxRune strings_IndexFunc_with_dns_Label_1.p s < 0
        · rw [if_pos c3, if_pos (by omega)]
          rw [decide_eq_true c3] at hi
          rw [← hi, Bool.true_and]
          have b0 : bt s 0 = (((os s)[0]'hl).toNat : Int) := by
            have := bt_os s 0
            rw [List.getElem?_eq_getElem hl] at this
            exact this
          have b1 : bt s ((s.size : Int) - 1) = (((os s)[(os s).length - 1]'(by omega)).toNat : Int) := by
            have := bt_os s ((os s).length - 1)
            rw [List.getElem?_eq_getElem (show (os s).length - 1 < (os s).length by omega)] at this
            rw [show (s.size : Int) - 1 = (((os s).length - 1 : Nat) : Int) by omega]
            exact this
          have g0 : (os s).head? = some ((os s)[0]'hl) := by rw [List.head?_eq_getElem?, List.getElem?_eq_getElem hl]
          have g1 : (os s).getLast? = some ((os s)[(os s).length - 1]'(by omega)) := by rw [List.getLast?_eq_getElem?, List.getElem?_eq_getElem (by omega)]
          have hb : ∀ c : UInt8, ((c.toNat : Int) = 45) ↔ c = 45 := fun c => ⟨fun h => by
            apply UInt8.toNat_inj.1
            show c.toNat = 45
            omega, fun h => by rw [h]; rfl⟩
          rw [b0, g0]
          by_cases c4 : (os s)[0]'hl = 45
          · rw [if_pos ((hb _).2 c4), c4, decide_eq_false (show ¬ some (45 : UInt8) ≠ some 45 by decide)]; rfl
          · rw [if_neg (fun h => c4 ((hb _).1 h)), if_pos (by omega), if_pos (by omega), b1, g1, decide_eq_true (show some ((os s)[0]'hl) ≠ some 45 from fun h => c4 (Option.some.inj h)), Bool.true_and]
            congr 1
            rw [Bool.eq_iff_iff, bne_iff_ne, decide_eq_true_iff]
            exact ⟨fun h h2 => h ((hb _).2 (Option.some.inj h2)), fun h h2 => h (by rw [(hb _).1 h2])⟩
        · rw [if_neg c3]
          rw [decide_eq_false c3] at hi
          rw [← hi]; rfl
      · rw [if_neg (by omega), decide_eq_false c2]; rfl
  unfold labB
  rw [h0]
  cases labL (os s) <;> rfl
noncomputable def nameL (l : List UInt8) : Bool := decide (l.length ≤ 60) && (splitL 46 l).all labL
theorem nm_eq (l : List UInt8) : nm l = nameL l := by
  unfold nm nameL
  have := pieces_p 46 l.length ⟨l.toArray⟩ (Nat.le_refl _)
  rw [show os (⟨l.toArray⟩ : ByteArray) = l from rfl] at this
  rw [← this, List.all_map]
  congr 1
  congr 1
  funext s
  exact lab_p s

theorem bt_n {s : ByteArray} {i : Nat} (h : i < (os s).length) : bt s (i : Int) = (((os s)[i]'h).toNat : Int) := by
  rw [bt_os, List.getElem?_eq_getElem h]; rfl
noncomputable def okP (c i n : Nat) : Prop := (97 ≤ c ∧ c ≤ 122) ∨ (48 ≤ c ∧ c ≤ 57) ∨ (c = 45 ∧ i ≠ 0 ∧ i + 1 ≠ n)
instance (c i n : Nat) : Decidable (okP c i n) := by unfold okP; exact inferInstance
theorem label_step (s : ByteArray) (hs : (os s).length ≤ 1000) (i k : Nat) (hi : i < (os s).length) : tollref01_Label.l0 (k + 1) s (i : Int) = if okP ((os s)[i]'hi).toNat i (os s).length then tollref01_Label.l0 k s ((i + 1 : Nat) : Int) else some false := by
  have hz := size_os s
  rw [tollref01_Label.l0, if_pos (by omega), if_pos (by omega), bt_n hi, wrapN (by omega), wrap64_id (x := (s.size : Int) - 1) (by omega) (by omega)]
  generalize tollref01_Label.l0 k s ((i + 1 : Nat) : Int) = X
  generalize ((os s)[i]'hi).toNat = c
  by_cases hok : okP c i (os s).length
  · rw [if_pos hok]
    unfold okP at hok
    repeat' split
    all_goals first | rfl | (exfalso; omega)
  · rw [if_neg hok]
    unfold okP at hok
    repeat' split
    all_goals first | rfl | (exfalso; omega)
theorem label_loop (s : ByteArray) (hs : (os s).length ≤ 1000) : ∀ (n i k : Nat), (os s).length - i = n → i ≤ (os s).length → n + 1 ≤ k → ∃ b, tollref01_Label.l0 k s (i : Int) = some b ∧ (b = true ↔ (1 ≤ (os s).length ∧ (os s).length ≤ 20) ∧ ∀ j (hj : j < (os s).length), i ≤ j → okP ((os s)[j]'hj).toNat j (os s).length) := by
  have hz := size_os s
  intro n
  induction n with
  | zero =>
    intro i k h1 h2 h3
    obtain ⟨k, rfl⟩ : ∃ m, k = m + 1 := ⟨k - 1, by omega⟩
    obtain rfl : i = (os s).length := by omega
    rw [tollref01_Label.l0, if_neg (by omega)]
    by_cases c : 1 ≤ (os s).length
    · rw [if_pos (by omega)]
      exact ⟨_, rfl, by rw [decide_eq_true_iff]; exact ⟨fun h => ⟨⟨c, by omega⟩, fun j hj hij => by omega⟩, fun h => by omega⟩⟩
    · rw [if_neg (by omega)]
      exact ⟨_, rfl, ⟨fun h => (by cases h), fun h => absurd h.1.1 c⟩⟩
  | succ n ih =>
    intro i k h1 h2 h3
    obtain ⟨k, rfl⟩ : ∃ m, k = m + 1 := ⟨k - 1, by omega⟩
    have hi : i < (os s).length := by omega
    rw [label_step s hs i k hi]
    by_cases hok : okP ((os s)[i]'hi).toNat i (os s).length
    · rw [if_pos hok]
      obtain ⟨b, h4, h5⟩ := ih (i + 1) k (by omega) (by omega) (by omega)
      refine ⟨b, h4, h5.trans ⟨fun h => ⟨h.1, fun j hj hij => ?_⟩, fun h => ⟨h.1, fun j hj hij => h.2 j hj (by omega)⟩⟩⟩
      rcases Nat.lt_or_ge i j with c | c
      · exact h.2 j hj (by omega)
      · obtain rfl : j = i := by omega
        exact hok
    · rw [if_neg hok]
      exact ⟨false, rfl, ⟨fun h => (by cases h), fun h => absurd (h.2 i hi (Nat.le_refl _)) hok⟩⟩
theorem labL_iff (l : List UInt8) : labL l = true ↔ (1 ≤ l.length ∧ l.length ≤ 20) ∧ ∀ j (hj : j < l.length), okP (l[j]'hj).toNat j l.length := by
  unfold labL
  simp only [Bool.and_eq_true, decide_eq_true_eq, List.all_eq_true]
  have h45 : ∀ c : UInt8, c.toNat = 45 ↔ c = 45 := fun c => ⟨fun h => UInt8.toNat_inj.1 h, fun h => by rw [h]; rfl⟩
  constructor
  · rintro ⟨h1, h2, h3, h4, h5⟩
    have hl : 0 < l.length := by cases l with | nil => exact absurd rfl h1 | cons => simp
    refine ⟨⟨hl, h2⟩, fun j hj => ?_⟩
    have ho := h3 _ (List.getElem_mem hj)
    unfold octL at ho
    simp only [Bool.or_eq_true, Bool.and_eq_true, decide_eq_true_eq, beq_iff_eq] at ho
    unfold okP
    rcases ho with h | h | h
    · exact .inl h
    · exact .inr (.inl h)
    · refine .inr (.inr ⟨h, fun e => ?_, fun e => ?_⟩)
      · subst e
        rw [List.head?_eq_getElem?, List.getElem?_eq_getElem hj] at h4
        exact h4 (by rw [(h45 _).1 h])
      · rw [List.getLast?_eq_getElem?, show l.length - 1 = j by omega, List.getElem?_eq_getElem hj] at h5
        exact h5 (by rw [(h45 _).1 h])
  · rintro ⟨⟨h1, h2⟩, h3⟩
    refine ⟨fun e => by rw [e] at h1; exact absurd h1 (by decide), h2, fun c hc => ?_, fun e => ?_, fun e => ?_⟩
    · obtain ⟨j, hj, rfl⟩ := List.getElem_of_mem hc
      have := h3 j hj
      unfold okP at this
      unfold octL
      simp only [Bool.or_eq_true, Bool.and_eq_true, decide_eq_true_eq, beq_iff_eq]
      rcases this with h | h | h
      · exact .inl h
      · exact .inr (.inl h)
      · exact .inr (.inr h.1)
    · rw [List.head?_eq_getElem?, List.getElem?_eq_getElem (show 0 < l.length by omega)] at e
      have := h3 0 (by omega)
      rw [Option.some.inj e] at this
      unfold okP at this
      revert this; show (97 ≤ 45 ∧ 45 ≤ 122) ∨ (48 ≤ 45 ∧ 45 ≤ 57) ∨ (45 = 45 ∧ 0 ≠ 0 ∧ _) → False
      omega
    · rw [List.getLast?_eq_getElem?, List.getElem?_eq_getElem (show l.length - 1 < l.length by omega)] at e
      have := h3 (l.length - 1) (by omega)
      rw [Option.some.inj e] at this
      unfold okP at this
      revert this; show (97 ≤ 45 ∧ 45 ≤ 122) ∨ (48 ≤ 45 ∧ 45 ≤ 57) ∨ (45 = 45 ∧ _ ∧ l.length - 1 + 1 ≠ l.length) → False
      omega
theorem label_r (s : ByteArray) (hs : (os s).length ≤ 1000) (k : Nat) (hk : 1100 ≤ k) : tollref01_Label.f k s = some (labL (os s)) := by
  obtain ⟨b, h1, h2⟩ := label_loop s hs (os s).length 0 k (by omega) (by omega) (by omega)
  refine Eq.trans h1 ?_
  congr 1
  rw [Bool.eq_iff_iff, h2, labL_iff]
  exact ⟨fun h => ⟨h.1, fun j hj => h.2 j hj (by omega)⟩, fun h => ⟨h.1, fun j hj _ => h.2 j hj⟩⟩

theorem splitL_snoc (c x : UInt8) : ∀ p : List UInt8, splitL c (p ++ [x]) = if x = c then splitL c p ++ [[]] else (splitL c p).dropLast ++ [(splitL c p).getLastD [] ++ [x]]
  | [] => by
    have e : splitL c [x] = if x = c then [[], []] else [[x]] := rfl
    rw [List.nil_append, e]
    rfl
  | y :: r => by
    obtain ⟨a, t, e⟩ := splitL_cons (c := c) (l := r)
    have ih := splitL_snoc c x r
    rw [List.cons_append, splitL, splitL, ih, e]
    by_cases h : x = c
    · rw [if_pos h, if_pos h]
      by_cases hy : y = c
      · rw [if_pos hy, if_pos hy]; rfl
      · rw [if_neg hy, if_neg hy]; rfl
    · rw [if_neg h, if_neg h]
      by_cases hy : y = c
      · rw [if_pos hy, if_pos hy]
        cases t <;> rfl
      · rw [if_neg hy, if_neg hy]
        cases t <;> rfl
theorem set_last {α : Type} (l : List α) (h : l ≠ []) (v : α) : l.set (l.length - 1) v = l.dropLast ++ [v] := by
  have e : l.dropLast ++ [l.getLast h] = l := List.dropLast_concat_getLast h
  conv => lhs; rw [← e]
  have hl : (l.dropLast ++ [l.getLast h]).length - 1 = l.dropLast.length := by rw [List.length_append, List.length_singleton]; omega
  rw [hl, List.set_append_right _ _ (Nat.le_refl _), Nat.sub_self]; rfl
theorem split_loop (s : ByteArray) (c : UInt8) (hs : (os s).length ≤ 1000) : ∀ (n i k : Nat) (out : List ByteArray), (os s).length - i = n → i ≤ (os s).length → n + 1 ≤ k → out.map os = splitL c ((os s).take i) → (∀ x ∈ out, (os x).length ≤ i) → out.length ≤ i + 1 →
    ∃ L, tollref01_Split.l0 k s (c.toNat : Int) out (i : Int) = some L ∧ L.map os = splitL c (os s) ∧ (∀ x ∈ L, (os x).length ≤ 1000) ∧ L.length ≤ 1001 := by
  have hz := size_os s
  intro n
  induction n with
  | zero =>
    intro i k out h1 h2 h3 h4 h5 h6
    obtain ⟨k, rfl⟩ : ∃ m, k = m + 1 := ⟨k - 1, by omega⟩
    obtain rfl : i = (os s).length := by omega
    rw [List.take_length] at h4
    exact ⟨out, by rw [tollref01_Split.l0, if_neg (by omega)], h4, fun x hx => by have := h5 x hx; omega, by omega⟩
  | succ n ih =>
    intro i k out h1 h2 h3 h4 h5 h6
    obtain ⟨k, rfl⟩ : ∃ m, k = m + 1 := ⟨k - 1, by omega⟩
    have hi : i < (os s).length := by omega
    have hne : out ≠ [] := fun e => by rw [e] at h4; exact splitL_ne c _ h4.symm
    have hlen : 0 < out.length := by cases out with | nil => exact absurd rfl hne | cons => simp
    have et : (os s).take (i + 1) = (os s).take i ++ [(os s)[i]'hi] := by rw [List.take_append_getElem hi]
    rw [tollref01_Split.l0, if_pos (by omega), if_pos (by omega), bt_n hi, wrapN (by omega)]
    by_cases hc : (os s)[i]'hi = c
    · rw [if_pos (by rw [hc]), if_pos (by omega)]
      refine ih (i + 1) k _ (by omega) (by omega) (by omega) ?_ ?_ (by rw [List.length_append, List.length_singleton]; omega)
      · rw [et, splitL_snoc, if_pos hc, List.map_append, h4]; rfl
      · intro x hx
        rcases List.mem_append.1 hx with hx | hx
        · have := h5 x hx; omega
        · rw [List.mem_singleton.1 hx]; show 0 ≤ _; omega
    · have hcn : ¬ (((os s)[i]'hi).toNat : Int) = (c.toNat : Int) := fun h => hc (UInt8.toNat_inj.1 (by omega))
      have hw : wrap64 ((out.length : Int) - 1) = ((out.length - 1 : Nat) : Int) := by rw [wrap64_id (by omega) (by omega)]; omega
      have hlast : out.length - 1 < out.length := by omega
      have hx := h5 _ (List.getElem_mem hlast)
      have hxs := size_os (out[out.length - 1]'hlast)
      have he : os (s.extract (i : Int).toNat ((i + 1 : Nat) : Int).toNat) = [(os s)[i]'hi] := by
        rw [Int.toNat_natCast, Int.toNat_natCast, os_extract, List.drop_eq_getElem_cons hi, show i + 1 - i = 1 by omega]; rfl
      have hes := size_os (s.extract (i : Int).toNat ((i + 1 : Nat) : Int).toNat)
      rw [he] at hes
      rw [if_neg hcn, hw, if_pos (by omega), if_pos (by omega), if_pos (by omega), if_pos (by omega), rdB out _ hlast, if_pos (by rw [hes]; simp; omega), Int.toNat_natCast (out.length - 1)]
      refine ih (i + 1) k _ (by omega) (by omega) (by omega) ?_ ?_ (by rw [List.length_set]; omega)
      · rw [et, splitL_snoc, if_neg hc, ← h4, set_last out hne, List.map_append, List.map_dropLast]
        congr 1
        show [os (_ ++ _)] = _
        rw [os_append, he]
        congr 2
        rw [List.getLastD_eq_getLast?, List.getLast?_map, List.getLast?_eq_getElem?, List.getElem?_eq_getElem hlast]; rfl
      · intro x hx2
        rw [set_last out hne] at hx2
        rcases List.mem_append.1 hx2 with hx2 | hx2
        · have := h5 x (List.dropLast_subset _ hx2); omega
        · rw [List.mem_singleton.1 hx2, os_append, he, List.length_append, List.length_singleton]; omega
theorem split_r (s : ByteArray) (hs : (os s).length ≤ 1000) (k : Nat) (hk : 1100 ≤ k) : ∃ L, tollref01_Split.f k s 46 = some L ∧ L.map os = splitL 46 (os s) ∧ (∀ x ∈ L, (os x).length ≤ 1000) ∧ L.length ≤ 1001 :=
  split_loop s 46 hs (os s).length 0 k [⟨#[]⟩] (by omega) (by omega) (by omega) rfl (fun x hx => by rw [List.mem_singleton.1 hx]; show 0 ≤ 0; omega) (by show 1 ≤ 1; omega)
theorem name_loop (L : List ByteArray) (hL : ∀ x ∈ L, (os x).length ≤ 1000) (hn : L.length ≤ 1001) : ∀ (n i k : Nat), L.length - i = n → i ≤ L.length → n + 1101 ≤ k → tollref01_Name.l0 k L (i : Int) = some (((L.drop i).map os).all labL) := by
  intro n
  induction n with
  | zero =>
    intro i k h1 h2 h3
    obtain ⟨k, rfl⟩ : ∃ m, k = m + 1 := ⟨k - 1, by omega⟩
    rw [tollref01_Name.l0, if_neg (by omega), List.drop_eq_nil_of_le (by omega)]; rfl
  | succ n ih =>
    intro i k h1 h2 h3
    obtain ⟨k, rfl⟩ : ∃ m, k = m + 1 := ⟨k - 1, by omega⟩
    have hi : i < L.length := by omega
    rw [tollref01_Name.l0, if_pos (by omega), if_pos (by omega), rdB L i hi, label_r _ (hL _ (List.getElem_mem hi)) k (by omega), Option.bind_some, wrapN (by omega), ih (i + 1) k (by omega) (by omega) (by omega), List.drop_eq_getElem_cons hi, List.map_cons, List.all_cons]
    cases labL (os (L[i]'hi)) <;> rfl
theorem name_r (s : ByteArray) (hs : (os s).length ≤ 1000) (k : Nat) (hk : 2300 ≤ k) : tollref01_Name.f k s = some (nm (os s)) := by
  have hz := size_os s
  rw [nm_eq]
  unfold tollref01_Name.f nameL
  by_cases c : (os s).length ≤ 60
  · obtain ⟨L, h1, h2, h3, h4⟩ := split_r s hs k (by omega)
    have := name_loop L h3 h4 L.length 0 k (by omega) (by omega) (by omega)
    rw [List.drop_zero, h2] at this
    rw [if_neg (by omega), h1, Option.bind_some, decide_eq_true c, Bool.true_and]
    exact this
  · rw [if_pos (by omega), decide_eq_false c]; rfl

end Go.Proofs.YtfdopmjgiakcdaaGreatDoor.L
namespace Go.Proofs.YtfdopmjgiakcdaaGreatDoor.L
open Go Go.RowKit Go.Proofs.YtfdopmjgiakcdaaGreatDoor.P Go.Proofs.YtfdopmjgiakcdaaGreatDoorW.PrintWords Go.Proofs.YtfdopmjgiakcdaaGreatDoorW.PrintLast
abbrev FT := S26
noncomputable def SF (x : FT) : Prop := (os x.f1).length ≤ 100 ∧ (os x.f2).length ≤ 100 ∧ (os x.f3).length ≤ 100 ∧ (os x.f5).length ≤ 100
noncomputable def turnsF (x : FT) : Bool := (decide (os x.f3 = []) || nm (os x.f3)) && (if os x.f5 = [] then !x.f6 else if x.f6 = true then isPath (os x.f5) else above (os x.f5))
theorem turns_p (x : FT) (hx : SF x) (k : Nat) (hk : 1 ≤ k) : filter_turns.f k x.f0 x.f1 x.f2 x.f3 x.f4 x.f5 x.f6 x.f7 = some (turnsF x) := by
  obtain ⟨m, rfl⟩ : ∃ m, k = m + 1 := ⟨k - 1, by omega⟩
  have hz : x.f5.size ≤ 1000 := by rw [size_os]; have := hx.2.2.2; omega
  have J : ∀ b : Bool, filter_turns.j0 (m + 1) b x.f0 x.f1 x.f2 x.f3 x.f4 x.f5 x.f6 x.f7 = some (!b && (if os x.f5 = [] then !x.f6 else if x.f6 = true then isPath (os x.f5) else above (os x.f5))) := by
    intro b
    rw [filter_turns.j0, path_is, path_may _ _ hz, toList_os]
    simp only [Option.bind_some]
    cases b <;> by_cases h5 : os x.f5 = [] <;> cases x.f6 <;> simp [h5, mayP]
  unfold filter_turns.f turnsF
  rw [name_p, J, toList_os]
  by_cases h3 : os x.f3 = []
  · rw [if_pos h3]; simp [h3]
  · rw [if_neg h3, Option.bind_some, J]; simp [h3]
theorem above_is (l : List UInt8) : (isPath l && above l) = above l := by unfold above; cases isPath l <;> simp
theorem turns_r (x : FT) (hx : SF x) (k : Nat) (hk : 2400 ≤ k) : tollref07_turns.f k x.f0 x.f1 x.f2 x.f3 x.f4 x.f5 x.f6 x.f7 = some (turnsF x) := by
  obtain ⟨m, rfl⟩ : ∃ m, k = m + 1 := ⟨k - 1, by omega⟩
  have hz : x.f5.size ≤ 100 := by rw [size_os]; have := hx.2.2.2; omega
  have J : ∀ b : Bool, tollref07_turns.j0 (m + 1) b x.f0 x.f1 x.f2 x.f3 x.f4 x.f5 x.f6 x.f7 = some (!b && (if os x.f5 = [] then !x.f6 else if x.f6 = true then isPath (os x.f5) else above (os x.f5))) := by
    intro b
    rw [tollref07_turns.j0, ref_is _ _ (by omega) (by omega), ref_above _ _ (by omega) (by omega), toList_os]
    simp only [Option.bind_some]
    have ha := above_is (os x.f5)
    cases b <;> by_cases h5 : os x.f5 = [] <;> cases x.f6 <;> cases h6 : isPath (os x.f5) <;> simp_all
  unfold tollref07_turns.f turnsF
  rw [name_r _ (by have := hx.2.2.1; omega) _ (by omega), J, toList_os]
  by_cases h3 : os x.f3 = []
  · rw [if_pos h3]; simp [h3]
  · rw [if_neg h3, Option.bind_some, J]; simp [h3]
noncomputable def noneF (x : FT) : Bool := (os x.f3 == []) && (x.f4 == 0 && (os x.f5 == [] && (!x.f6 && (x.f7 == 0))))
noncomputable def mayJ (b : Bool) (x : FT) : Bool :=
  if b = true then noneF x && (isTok (os x.f1) && isVal (os x.f2))
  else if x.f0 = 3 then (os x.f2 == [] && noneF x) && isTok (os x.f1)
  else if x.f0 = 4 then (os x.f1 == [] && os x.f2 == []) && (turnsF x && (decide (0 ≤ x.f4) && (decide (x.f4 ≤ 65535) && (x.f7 == 301 || x.f7 == 302))))
  else if x.f0 = 5 then (os x.f1 == [] && (os x.f2 == [] && (x.f4 == 0 && x.f7 == 0))) && (turnsF x && !(os x.f3 == [] && os x.f5 == []))
  else false
noncomputable def mayF (x : FT) : Bool := mayJ (x.f0 == 1 || x.f0 == 2) x
theorem may_p (x : FT) (hx : SF x) (k : Nat) (hk : 2300 ≤ k) : filter_May.f k x.f0 x.f1 x.f2 x.f3 x.f4 x.f5 x.f6 x.f7 = some (mayF x) := by
  obtain ⟨m, rfl⟩ : ∃ m, k = m + 1 := ⟨k - 1, by omega⟩
  have J : ∀ b : Bool, filter_May.j0 (m + 1) x.f0 b x.f0 x.f1 x.f2 x.f3 x.f4 x.f5 x.f6 x.f7 = some (mayJ b x) := by
    intro b
    rw [filter_May.j0, tok_p _ (by have := hx.1; omega) _ (by omega), val_p _ (by have := hx.2.1; omega) _ (by omega), turns_p x hx _ (by omega)]
    simp only [Option.bind_some, toList_os]
    rw [show (os x.f3 == [] && (x.f4 == 0 && (os x.f5 == [] && (!x.f6 && (x.f7 == 0))))) = noneF x from rfl]
    unfold mayJ
    generalize noneF x = nf
    generalize turnsF x = tf
    generalize os x.f1 = l1
    generalize os x.f2 = l2
    generalize os x.f3 = l3
    generalize os x.f5 = l5
    cases hb : b
    · rw [if_neg (show ¬ (false = true) by decide), if_neg (show ¬ (false = true) by decide)]
      by_cases h3 : x.f0 = 3
      · rw [if_pos h3, if_pos h3]
        cases isTok l1 <;> cases (l2 == []) <;> cases nf <;> rfl
      · rw [if_neg h3, if_neg h3]
        by_cases h4 : x.f0 = 4
        · rw [if_pos h4, if_pos h4]
          by_cases e1 : l1 = [] <;> by_cases e2 : l2 = [] <;> cases tf <;> by_cases e3 : 0 ≤ x.f4 <;> by_cases e4 : x.f4 ≤ 65535 <;> by_cases e5 : x.f7 = 301 <;> simp [e1, e2, e3, e4, e5]
        · rw [if_neg h4, if_neg h4]
          by_cases h5 : x.f0 = 5
          · rw [if_pos h5, if_pos h5]
            cases e : (l1 == [] && (l2 == [] && (x.f4 == 0 && x.f7 == 0))) <;> cases tf <;> cases l3 <;> cases l5 <;> simp
          · rw [if_neg h5, if_neg h5]
    · rw [if_pos rfl, if_pos rfl]
      cases nf <;> cases isTok l1 <;> rfl
  unfold filter_May.f mayF
  rw [J, J]
  by_cases h1 : x.f0 = 1
  · rw [if_pos h1]; simp [h1]
  · rw [if_neg h1, beq_eq_false_iff_ne.2 h1, Bool.false_or]
theorem may_r (x : FT) (hx : SF x) (k : Nat) (hk : 4000 ≤ k) : tollref07_May.f k x.f0 x.f1 x.f2 x.f3 x.f4 x.f5 x.f6 x.f7 = some (mayF x) := by
  obtain ⟨m, rfl⟩ : ∃ m, k = m + 2 := ⟨k - 2, by omega⟩
  have hs : x.f3.size + x.f5.size ≤ 9223372036854775807 := by rw [size_os, size_os]; have := hx.2.2.1; have := hx.2.2.2; omega
  have J : ∀ b : Bool, tollref07_May.j1 (m + 1) (noneF x) x.f0 b x.f0 x.f1 x.f2 x.f3 x.f4 x.f5 x.f6 x.f7 = some (mayJ b x) := by
    intro b
    rw [tollref07_May.j1, tok_r _ (by have := hx.1; omega) _ (by omega), val_r _ (by have := hx.2.1; omega) _ (by omega), turns_r x hx _ (by omega)]
    simp only [Option.bind_some, toList_os, os_append]
    unfold mayJ
    generalize noneF x = nf
    generalize turnsF x = tf
    generalize os x.f1 = l1
    generalize os x.f2 = l2
    generalize os x.f3 = l3
    generalize os x.f5 = l5
    cases hb : b
    · rw [if_neg (show ¬ (false = true) by decide), if_neg (show ¬ (false = true) by decide)]
      by_cases h3 : x.f0 = 3
      · rw [if_pos h3, if_pos h3]
        cases isTok l1 <;> cases nf <;> cases (l2 == []) <;> rfl
      · rw [if_neg h3, if_neg h3]
        by_cases h4 : x.f0 = 4
        · rw [if_pos h4, if_pos h4]
          by_cases e1 : l1 = [] <;> by_cases e2 : l2 = [] <;> cases tf <;> by_cases e3 : 0 ≤ x.f4 <;> by_cases e4 : x.f4 ≤ 65535 <;> by_cases e5 : x.f7 = 301 <;> simp [e1, e2, e3, e4, e5]
        · rw [if_neg h4, if_neg h4]
          by_cases h5 : x.f0 = 5
          · rw [if_pos h5, if_pos h5, if_pos hs]
            cases l1 <;> cases l2 <;> by_cases e3 : x.f4 = 0 <;> by_cases e4 : x.f7 = 0 <;> cases tf <;> cases l3 <;> cases l5 <;> simp [e3, e4]
          · rw [if_neg h5, if_neg h5]
    · rw [if_pos rfl, if_pos rfl]
      cases nf <;> cases isTok l1 <;> rfl
  have J0 : tollref07_May.j0 (m + 2) (noneF x) x.f0 x.f1 x.f2 x.f3 x.f4 x.f5 x.f6 x.f7 = some (mayF x) := by
    rw [tollref07_May.j0, J, J]
    unfold mayF
    by_cases h1 : x.f0 = 1
    · rw [if_pos h1]; simp [h1]
    · rw [if_neg h1, beq_eq_false_iff_ne.2 h1, Bool.false_or]
  unfold tollref07_May.f
  simp only [toList_os]
  rw [← J0]
  clear J J0
  unfold noneF
  generalize os x.f3 = l3
  generalize os x.f5 = l5
  by_cases e4 : x.f4 = 0
  · cases l3 <;> cases l5 <;> cases e6 : x.f6 <;> simp [e4]
  · rw [beq_eq_false_iff_ne.2 e4, if_neg e4]; cases l3 <;> cases l5 <;> cases e6 : x.f6 <;> simp
noncomputable def fewF1 (x : FT) : FT := ⟨x.f0, few x.f1, few x.f2, few x.f3, x.f4, few x.f5, x.f6, x.f7⟩
noncomputable def fewF (l : List FT) : List FT := (l.take 9).map fewF1
theorem rdF (l : List FT) (i : Nat) (h : i < l.length) : rd_T26 l (i : Int) = l[i] := by
  unfold rd_T26
  rw [Int.toNat_natCast, getD_at _ _ h]
theorem fewF_loop (l : List FT) : ∀ (n i k : Nat) (acc : List FT), 9 - i ≤ n → i ≤ 9 → i ≤ l.length → acc.length ≤ 1000 + i → 2 * n + 2 ≤ k → tolllaw07_Few.l0 k l acc (i : Int) = some (acc ++ ((l.drop i).take (9 - i)).map fewF1) := by
  intro n
  induction n with
  | zero =>
    intro i k acc h1 h2 h3 h4 h5
    obtain ⟨k, rfl⟩ : ∃ m, k = m + 2 := ⟨k - 2, by omega⟩
    obtain rfl : i = 9 := by omega
    have e : tolllaw07_Few.j1 (k + 1) l acc ((9 : Nat) : Int) false = some acc := by rw [tolllaw07_Few.j1]; rfl
    have e' : tolllaw07_Few.j1 (k + 1) l acc 9 false = some acc := e
    rw [tolllaw07_Few.l0]
    split <;> simp [e']
  | succ n ih =>
    intro i k acc h1 h2 h3 h4 h5
    obtain ⟨k, rfl⟩ : ∃ m, k = m + 2 := ⟨k - 2, by omega⟩
    have e : tolllaw07_Few.j1 (k + 1) l acc (i : Int) false = some acc := by rw [tolllaw07_Few.j1]; rfl
    rw [tolllaw07_Few.l0]
    by_cases hl : i < l.length
    · rw [if_pos (by omega)]
      by_cases h31 : i < 9
      · rw [show decide ((i : Int) < 9) = true from decide_eq_true (by omega), tolllaw07_Few.j1, if_pos rfl, if_pos (by omega), if_pos (by omega), rdF l i hl, few_eq, Option.bind_some, few_eq, Option.bind_some, few_eq, Option.bind_some, few_eq, Option.bind_some, if_pos (by omega), wrap64_id (by omega) (by omega), show (i : Int) + 1 = ((i + 1 : Nat) : Int) by omega, ih (i + 1) k _ (by omega) (by omega) (by omega) (by rw [List.length_append, List.length_singleton]; omega) (by omega)]
        rw [List.append_assoc, show 9 - i = (9 - (i + 1)) + 1 by omega, List.drop_eq_getElem_cons hl, List.take_succ_cons, List.map_cons]
        rfl
      · obtain rfl : i = 9 := by omega
        rw [show decide (((9 : Nat) : Int) < 9) = false from rfl, e]; rw [Nat.sub_self, List.take_zero]; simp
    · obtain rfl : i = l.length := by omega
      rw [if_neg (by omega), e]; simp
theorem fewF_eq (l : List FT) (k : Nat) (hk : 70 ≤ k) : tolllaw07_Few.f k l = some (fewF l) := by
  unfold tolllaw07_Few.f fewF
  have := fewF_loop l 9 0 k [] (by omega) (by omega) (by omega) (by simp) (by omega)
  simpa using this
theorem fewF1_small (x : FT) : SF (fewF1 x) := ⟨few_len _, few_len _, few_len _, few_len _⟩
theorem fewF_small (l : List FT) : (fewF l).length ≤ 9 ∧ ∀ x ∈ fewF l, SF x := by
  refine ⟨by unfold fewF; rw [List.length_map, List.length_take]; omega, fun x hx => ?_⟩
  obtain ⟨y, _, rfl⟩ := List.mem_map.1 hx
  exact fewF1_small y
end Go.Proofs.YtfdopmjgiakcdaaGreatDoor.L
namespace Go.Proofs.YtfdopmjgiakcdaaGreatDoor.L
open Go Go.RowKit Go.Proofs.YtfdopmjgiakcdaaGreatDoor.P Go.Proofs.YtfdopmjgiakcdaaGreatDoorW.PrintWords Go.Proofs.YtfdopmjgiakcdaaGreatDoorW.PrintLast
noncomputable def turnerF (x : FT) : Bool := x.f0 == 4 || x.f0 == 5
noncomputable def sameB (y x : FT) : Bool := decide (x.f0 = y.f0) && eqN x.f1 y.f1
noncomputable def likeB (y x : FT) : Bool := (turnerF x && turnerF y) || sameB y x
noncomputable def goB : List FT → List FT → Bool
  | pre, [] => decide (pre.length ≤ 8)
  | pre, y :: r => mayF y && (!pre.any (likeB y) && goB (pre ++ [y]) r)
noncomputable def allF (l : List FT) : Bool := goB [] l
noncomputable def goR : Nat → List FT → List FT → Bool
  | t, pre, [] => decide (t ≤ 1) && decide (pre.length ≤ 8)
  | t, pre, y :: r => mayF y && (!pre.any (sameB y) && goR (if y.f0 > 3 then t + 1 else t) (pre ++ [y]) r)
theorem may_kind {x : FT} (h : mayF x = true) : 1 ≤ x.f0 ∧ x.f0 ≤ 5 := by
  unfold mayF mayJ at h
  by_cases h1 : (x.f0 == 1 || x.f0 == 2) = true
  · simp only [Bool.or_eq_true, beq_iff_eq] at h1; omega
  rw [if_neg h1] at h
  by_cases h3 : x.f0 = 3
  · omega
  rw [if_neg h3] at h
  by_cases h4 : x.f0 = 4
  · omega
  rw [if_neg h4] at h
  by_cases h5 : x.f0 = 5
  · omega
  rw [if_neg h5] at h
  cases h
theorem turner_kind {x : FT} (h : mayF x = true) : turnerF x = decide (x.f0 > 3) := by
  have := may_kind h
  unfold turnerF
  by_cases h4 : x.f0 = 4
  · simp [h4]
  by_cases h5 : x.f0 = 5
  · simp [h5]
  rw [decide_eq_false (by omega)]
  simp [h4, h5]
theorem goR_two : ∀ (r pre : List FT) (t : Nat), 2 ≤ t → goR t pre r = false := by
  intro r
  induction r with
  | nil => intro pre t h; unfold goR; rw [decide_eq_false (by omega)]; rfl
  | cons y r ih =>
    intro pre t h
    unfold goR
    rw [ih _ _ (by split <;> omega)]
    simp
theorem goB_goR : ∀ (r pre : List FT) (t : Nat), t ≤ 1 → t = pre.countP (fun x => decide (x.f0 > 3)) → (∀ x ∈ pre, mayF x = true) → goB pre r = goR t pre r := by
  intro r
  induction r with
  | nil => intro pre t h1 _ _; unfold goB goR; rw [decide_eq_true h1]; rfl
  | cons y r ih =>
    intro pre t h1 h2 h3
    unfold goB goR
    cases hm : mayF y with
    | false => rfl
    | true =>
      rw [Bool.true_and, Bool.true_and]
      have hp : ∀ x ∈ pre ++ [y], mayF x = true := fun x hx => by
        rcases List.mem_append.1 hx with hx | hx
        · exact h3 x hx
        · rw [List.mem_singleton.1 hx]; exact hm
      by_cases hk : y.f0 > 3
      · rw [if_pos hk]
        have hty : turnerF y = true := by rw [turner_kind hm]; exact decide_eq_true hk
        by_cases h0 : t = 0
        · subst h0
          have hno : ∀ x ∈ pre, turnerF x = false := fun x hx => by
            rw [turner_kind (h3 x hx)]
            have := List.countP_eq_zero.1 h2.symm x hx
            simpa using this
          have he : pre.any (likeB y) = pre.any (sameB y) := by
            refine Bool.eq_iff_iff.2 ?_
            rw [List.any_eq_true, List.any_eq_true]
            constructor
            · rintro ⟨x, hx, hl⟩
              refine ⟨x, hx, ?_⟩
              unfold likeB at hl
              rw [hno x hx] at hl
              simpa using hl
            · rintro ⟨x, hx, hl⟩
              refine ⟨x, hx, ?_⟩
              unfold likeB
              rw [hl, Bool.or_true]
          rw [he, ih (pre ++ [y]) (0 + 1) (by omega) (by rw [List.countP_append, ← h2]; simp [hk]) hp]
        · obtain ⟨x, hx, hx3⟩ : ∃ x ∈ pre, x.f0 > 3 := by
            have : 0 < pre.countP (fun x => decide (x.f0 > 3)) := by omega
            obtain ⟨x, hx, hx3⟩ := List.countP_pos_iff.1 this
            exact ⟨x, hx, of_decide_eq_true hx3⟩
          have hl : pre.any (likeB y) = true := List.any_eq_true.2 ⟨x, hx, by unfold likeB; rw [turner_kind (h3 x hx), hty, decide_eq_true hx3]; rfl⟩
          rw [hl, goR_two _ _ _ (by omega)]
          simp
      · rw [if_neg hk]
        have hty : turnerF y = false := by rw [turner_kind hm]; exact decide_eq_false hk
        have he : pre.any (likeB y) = pre.any (sameB y) := by
          congr 1
          funext x
          unfold likeB
          rw [hty, Bool.and_false, Bool.false_or]
        rw [he, ih (pre ++ [y]) t h1 (by rw [List.countP_append, ← h2]; simp [hk]) hp]
theorem turner_p (x : FT) : filter_turner.f x.f0 x.f1 x.f2 x.f3 x.f4 x.f5 x.f6 x.f7 = some (turnerF x) := by
  unfold filter_turner.f turnerF
  by_cases h : x.f0 = 4
  · rw [if_pos h]; simp [h]
  · rw [if_neg h]; simp [h]
theorem like_p (y x : FT) (hy : SF y) (hx : SF x) : likeF y x = some (likeB y x) := by
  unfold likeF likeB sameB
  rw [turner_p, turner_p, Option.bind_some, Option.bind_some, same_p _ _ (by have := hx.1; omega) (by have := hy.1; omega)]
  cases turnerF x <;> cases turnerF y <;> by_cases h : x.f0 = y.f0 <;> simp [h]
theorem likeAny_p (y : FT) (hy : SF y) (l : List FT) (hl : ∀ x ∈ l, SF x) : likeAny y l = some (l.any (likeB y)) := by
  unfold likeAny
  rw [if_pos (List.all_eq_true.2 fun x hx => by rw [like_p y x hy (hl x hx)]; rfl)]
  congr 1
  refine Bool.eq_iff_iff.2 ?_
  rw [List.any_eq_true, List.any_eq_true]
  constructor
  · rintro ⟨x, hx, h⟩
    rw [like_p y x hy (hl x hx)] at h
    exact ⟨x, hx, by simpa using h⟩
  · rintro ⟨x, hx, h⟩
    exact ⟨x, hx, by rw [like_p y x hy (hl x hx), h]; rfl⟩
theorem all_go : ∀ (r pre : List FT) (k : Nat), 2300 ≤ k → (∀ x ∈ pre, SF x) → (∀ x ∈ r, SF x) → filter_All.go k pre r = some (goB pre r) := by
  intro r
  induction r with
  | nil =>
    intro pre k _ _ _
    unfold filter_All.go goB
    congr 1
    exact decide_eq_decide.2 (by omega)
  | cons y r ih =>
    intro pre k hk h1 h2
    have hy := h2 y List.mem_cons_self
    unfold filter_All.go goB
    rw [may_p y hy k hk, Option.bind_some]
    cases mayF y with
    | false => rfl
    | true =>
      rw [if_pos rfl, likeAny_p y hy pre h1, Option.bind_some, Bool.true_and]
      cases pre.any (likeB y) with
      | true => rfl
      | false =>
        rw [if_neg (by decide), ih (pre ++ [y]) k hk (fun x hx => by
          rcases List.mem_append.1 hx with hx | hx
          · exact h1 x hx
          · rw [List.mem_singleton.1 hx]; exact hy) (fun x hx => h2 x (List.mem_cons_of_mem _ hx))]
        rfl
theorem all_f (l : List FT) (k : Nat) (hk : 2300 ≤ k) (h : ∀ x ∈ l, SF x) : filter_All.f k l = some (allF l) := all_go l [] k hk (fun x hx => by cases hx) h
theorem wrapF {i : Nat} (h : i ≤ 100000) : wrap64 ((i : Int) + 1) = ((i + 1 : Nat) : Int) := by rw [wrap64_id (by omega) (by omega)]; omega
theorem all_l1 (l : List FT) (hs : ∀ x ∈ l, SF x) (hl : l.length ≤ 1000) (t : Int) (i : Nat) (hi : i < l.length) (m : Nat) (hm : 300 ≤ m) : ∀ (c j : Nat), j + c = i → tollref07_All.l1 (c + 1 + m) l t (i : Int) (j : Int) = if ((l.take i).drop j).any (sameB (l[i]'hi)) = true then some false else tollref07_All.l0 m l t ((i + 1 : Nat) : Int) := by
  intro c
  induction c with
  | zero =>
    intro j hj
    obtain rfl : j = i := by omega
    rw [show 0 + 1 + m = m + 1 by omega, tollref07_All.l1, if_neg (by omega), wrapF (by omega), List.drop_of_length_le (by rw [List.length_take]; omega)]
    rfl
  | succ c ih =>
    intro j hj
    have hjl : j < l.length := by omega
    have hd : (l.take i).drop j = l[j]'hjl :: (l.take i).drop (j + 1) := by
      rw [List.drop_eq_getElem_cons (by rw [List.length_take]; omega), List.getElem_take]
    rw [show c + 1 + 1 + m = (c + 1 + m) + 1 by omega, tollref07_All.l1, if_pos (by omega), if_pos (by omega), if_pos (by omega), if_pos (by omega), if_pos (by omega), rdF l j hjl, rdF l i hi, hd, List.any_cons, wrapF (by omega), ih (j + 1) (by omega)]
    have h1 := hs _ (List.getElem_mem hjl)
    have h2 := hs _ (List.getElem_mem hi)
    rw [same_r _ _ _ (by omega) h1.1 h2.1, Option.bind_some]
    unfold sameB
    by_cases hk : (l[j]'hjl).f0 = (l[i]'hi).f0
    · rw [if_pos hk, decide_eq_true hk, Bool.true_and]
      cases eqN (l[j]'hjl).f1 (l[i]'hi).f1 with
      | true => rfl
      | false => rfl
    · rw [if_neg hk, decide_eq_false hk]
      rfl
theorem all_l0 (l : List FT) (hs : ∀ x ∈ l, SF x) (hl : l.length ≤ 9) : ∀ (n i k t : Nat), l.length - i = n → i ≤ l.length → t ≤ i → 20 * n + 5000 ≤ k → tollref07_All.l0 k l (t : Int) (i : Int) = some (goR t (l.take i) (l.drop i)) := by
  intro n
  induction n with
  | zero =>
    intro i k t h1 h2 h3 h4
    obtain ⟨k, rfl⟩ : ∃ m, k = m + 1 := ⟨k - 1, by omega⟩
    obtain rfl : i = l.length := by omega
    rw [tollref07_All.l0, if_neg (by omega), List.take_length, List.drop_length]
    unfold goR
    by_cases ht : t ≤ 1
    · rw [if_pos (by omega), decide_eq_true ht, Bool.true_and]
      congr 1
      exact decide_eq_decide.2 (by omega)
    · rw [if_neg (by omega), decide_eq_false ht]; rfl
  | succ n ih =>
    intro i k t h1 h2 h3 h4
    have hi : i < l.length := by omega
    obtain ⟨m, rfl⟩ : ∃ m, k = ((i + 1 + m) + 1) + 1 := ⟨k - i - 3, by omega⟩
    have hy := hs _ (List.getElem_mem hi)
    rw [List.drop_eq_getElem_cons hi, tollref07_All.l0, if_pos (by omega), if_pos (by omega), rdF l i hi, may_r _ hy _ (by omega), Option.bind_some, wrapF (by omega)]
    unfold goR
    have step : ∀ t' : Nat, t' ≤ i + 1 → tollref07_All.j1 (i + 1 + m + 1) l (t' : Int) (i : Int) = some (!(l.take i).any (sameB (l[i]'hi)) && goR t' (l.take i ++ [l[i]'hi]) (l.drop (i + 1))) := by
      intro t' ht'
      rw [tollref07_All.j1, show (0 : Int) = ((0 : Nat) : Int) from rfl, all_l1 l hs (by omega) (t' : Int) i hi m (by omega) i 0 (by omega), List.drop_zero, ih (i + 1) m t' (by omega) (by omega) (by omega) (by omega), List.take_succ_eq_append_getElem hi]
      cases (l.take i).any (sameB (l[i]'hi)) with
      | true => rfl
      | false => rfl
    cases mayF (l[i]'hi) with
    | false => rfl
    | true =>
      rw [if_pos rfl, Bool.true_and]
      by_cases hk : (l[i]'hi).f0 > 3
      · rw [if_pos hk, if_pos hk, step (t + 1) (by omega)]
      · rw [if_neg hk, if_neg hk, step t (by omega)]
theorem all_r' (l : List FT) (k : Nat) (hk : 6000 ≤ k) (hl : l.length ≤ 9) (h : ∀ x ∈ l, SF x) : tollref07_All.f k l = some (allF l) := by
  unfold tollref07_All.f
  have := all_l0 l h hl l.length 0 k 0 (by omega) (by omega) (by omega) (by omega)
  rw [List.take_zero, List.drop_zero] at this
  rw [show (0 : Int) = ((0 : Nat) : Int) from rfl, this]
  unfold allF
  rw [goB_goR l [] 0 (by omega) rfl (fun x hx => by cases hx)]
end Go.Proofs.YtfdopmjgiakcdaaGreatDoor.L
namespace Go.Proofs.YtfdopmjgiakcdaaGreatDoor.L
open Go Go.RowKit Go.Proofs.YtfdopmjgiakcdaaGreatDoor.P Go.Proofs.YtfdopmjgiakcdaaGreatDoorW.PrintWords Go.Proofs.YtfdopmjgiakcdaaGreatDoorW.PrintLast
noncomputable def becB (f : FT) (pk : Int) (pv s : ByteArray) : ByteArray × Int :=
  if os f.f5 = [] then (s, 0) else if f.f6 = true ∨ pk = 1 then (f.f5, 0) else ((⟨(swapP pk (os pv) (os f.f5) (os s)).1.toArray⟩ : ByteArray), (swapP pk (os pv) (os f.f5) (os s)).2)
theorem bec_p (f : FT) (hf : SF f) (pk : Int) (pv s : ByteArray) (hp : (os pv).length ≤ 100) (hs : (os s).length ≤ 100) (k : Nat) (hk : 3 ≤ k) : filter_becomes.f k f.f0 f.f1 f.f2 f.f3 f.f4 f.f5 f.f6 f.f7 pk pv s = some (becB f pk pv s) := by
  unfold filter_becomes.f becB
  rw [toList_os]
  by_cases h5 : os f.f5 = []
  · rw [if_pos h5, if_pos h5]
  · rw [if_neg h5, if_neg h5]
    by_cases h6 : f.f6 = true
    · rw [if_pos h6, if_pos (.inl h6)]
    · rw [if_neg h6]
      by_cases h1 : pk = 1
      · rw [if_pos h1, if_pos (.inr h1)]
      · rw [if_neg h1, if_neg (fun h => h.elim h6 h1)]
        obtain ⟨t, e, h, g⟩ := path_swap pk pv f.f5 s k hk (by rw [size_os]; omega) (by rw [size_os]; have := hf.2.2.2; omega) (by rw [size_os]; omega)
        rw [h, Option.bind_some, ← g]
theorem swapP_len (pk : Int) (p w s : List UInt8) (hs : s.length ≤ 100) : (swapP pk p w s).1.length ≤ 100 := by
  have ht : (tailP p s).length ≤ 100 := by
    unfold tailP
    repeat' split
    all_goals first | (simp; done) | omega | (rw [List.length_drop]; omega)
  unfold swapP
  repeat' split
  all_goals first | (simp; done) | omega | (rw [List.length_append]; omega)
theorem bec_len (f : FT) (hf : SF f) (pk : Int) (pv s : ByteArray) (hs : (os s).length ≤ 100) : (os (becB f pk pv s).1).length ≤ 100 := by
  unfold becB
  split
  · exact hs
  · split
    · exact hf.2.2.2
    · exact swapP_len _ _ _ _ hs
abbrev St := ByteArray × ByteArray × List PT
noncomputable def stepB (pk : Int) (pv : ByteArray) (f : FT) (st : St) : St × Int :=
  if f.f0 = 1 then ((st.1, st.2.1, setL f.f1 f.f2 st.2.2 false), 0)
  else if f.f0 = 2 then ((st.1, st.2.1, st.2.2 ++ [⟨f.f1, f.f2⟩]), 0)
  else if f.f0 = 3 then ((st.1, st.2.1, st.2.2.filter fun x => !eqN x.f0 f.f1), 0)
  else if f.f0 = 4 then (st, 0)
  else ((if os f.f3 = [] then st.1 else f.f3, (becB f pk pv st.2.1).1, st.2.2), (becB f pk pv st.2.1).2)
theorem step_p (pk : Int) (pv : ByteArray) (f : FT) (st : St) (hf : SF f) (hm : mayF f = true) (hp : (os pv).length ≤ 100) (hs : (os st.2.1).length ≤ 100) {m : Nat} (hl : Small m st.2.2) (hm1 : m ≤ 1000) (k : Nat) (hk : 3 ≤ k) : filter_step.f k pk pv f st = some (stepB pk pv f st) := by
  unfold filter_step.f stepB
  have hkd := may_kind hm
  by_cases h1 : f.f0 = 1
  · rw [if_pos h1, if_pos h1, set_p hf.1 _ hl hm1, Option.bind_some]
  rw [if_neg h1, if_neg h1]
  by_cases h2 : f.f0 = 2
  · rw [if_pos h2, if_pos h2, add_p _ _ hl hm1, Option.bind_some]
  rw [if_neg h2, if_neg h2]
  by_cases h3 : f.f0 = 3
  · rw [if_pos h3, if_pos h3, drop_p hf.1 hl hm1, Option.bind_some]
  rw [if_neg h3, if_neg h3]
  by_cases h4 : f.f0 = 4
  · rw [if_pos h4, if_pos h4]
  rw [if_neg h4, if_neg h4, if_pos (by omega), bec_p f hf pk pv st.2.1 hp hs k hk, Option.bind_some, toList_os]
theorem step_small (pk : Int) (pv : ByteArray) (f : FT) (st : St) (hf : SF f) (hs : (os st.2.1).length ≤ 100) {m : Nat} (hl : Small m st.2.2) : Small (m + 1) (stepB pk pv f st).1.2.2 ∧ (os (stepB pk pv f st).1.2.1).length ≤ 100 := by
  unfold stepB
  split
  · exact ⟨setL_small hf.1 hf.2.1 hl, hs⟩
  split
  · refine ⟨⟨by rw [List.length_append, List.length_singleton]; have := hl.1; omega, fun x hx => ?_⟩, hs⟩
    rcases List.mem_append.1 hx with hx | hx
    · exact hl.2 x hx
    · rw [List.mem_singleton.1 hx]; exact ⟨hf.1, hf.2.1⟩
  split
  · exact ⟨(hl.filter _).mono (by omega), hs⟩
  split
  · exact ⟨hl.mono (by omega), hs⟩
  · exact ⟨hl.mono (by omega), bec_len f hf pk pv _ hs⟩
abbrev DoR := ByteArray × ByteArray × ByteArray × List PT × List PT × Int
noncomputable def errD (e : Int) : DoR := ((⟨#[]⟩ : ByteArray), (⟨#[]⟩ : ByteArray), (⟨#[]⟩ : ByteArray), [], [], e)
noncomputable def goD (pk : Int) (pv m : ByteArray) (q : List PT) : St → List FT → DoR
  | st, [] => if st.2.2.length > 30 then errD 5 else (m, st.1, st.2.1, q, st.2.2, 0)
  | st, f :: r => if (stepB pk pv f st).2 = 0 then goD pk pv m q (stepB pk pv f st).1 r else errD (stepB pk pv f st).2
theorem go_p (pk : Int) (pv m : ByteArray) (q : List PT) (hp : (os pv).length ≤ 100) (k : Nat) (hk : 3 ≤ k) : ∀ (r : List FT) (st : St) (n : Nat), (∀ f ∈ r, SF f ∧ mayF f = true) → Small n st.2.2 → n + r.length ≤ 1000 → (os st.2.1).length ≤ 100 → filter_Do.go k pk pv m q st r = some (goD pk pv m q st r) := by
  intro r
  induction r with
  | nil => intro st n _ _ _ _; unfold filter_Do.go goD errD; rfl
  | cons f r ih =>
    intro st n h1 h2 h3 h4
    rw [List.length_cons] at h3
    obtain ⟨hf, hm⟩ := h1 f List.mem_cons_self
    have hss := step_small pk pv f st hf h4 h2
    unfold filter_Do.go goD
    rw [step_p pk pv f st hf hm hp h4 h2 (by omega) k hk, Option.bind_some]
    by_cases h0 : (stepB pk pv f st).2 = 0
    · rw [if_pos h0, if_pos h0, ih _ (n + 1) (fun f' hf' => h1 f' (List.mem_cons_of_mem _ hf')) hss.1 (by omega) hss.2]
    · rw [if_neg h0, if_neg h0]; rfl
theorem goB_may : ∀ (r pre : List FT), goB pre r = true → ∀ x ∈ r, mayF x = true := by
  intro r
  induction r with
  | nil => intro pre _ x hx; cases hx
  | cons y r ih =>
    intro pre h x hx
    unfold goB at h
    simp only [Bool.and_eq_true] at h
    rcases List.mem_cons.1 hx with rfl | hx
    · exact h.1
    · exact ih _ h.2.2 x hx
theorem allF_may {l : List FT} (h : allF l = true) : ∀ x ∈ l, mayF x = true := goB_may l [] h
noncomputable def doP (l : List FT) (pk : Int) (pv m h p : ByteArray) (q hd : List PT) : DoR := if allF l = true then (if holdsP pk (os pv) (os p) = true then goD pk pv m q (h, p, hd) l else errD 1) else errD 1
theorem do_p (l : List FT) (pk : Int) (pv m h p : ByteArray) (q hd : List PT) (hl : ∀ x ∈ l, SF x) (hl9 : l.length ≤ 500) (hp : (os pv).length ≤ 100) (hs : (os p).length ≤ 100) {n : Nat} (hn : n ≤ 400) (hd1 : Small n hd) (k : Nat) (hk : 2300 ≤ k) : filter_Do.f k l pk pv m h p q hd = some (doP l pk pv m h p q hd) := by
  unfold filter_Do.f doP
  rw [all_f l k hk hl, Option.bind_some]
  cases ha : allF l with
  | false => rfl
  | true =>
    rw [if_pos rfl, if_pos rfl, path_holds _ _ _ k (by omega) (by rw [size_os]; omega), Option.bind_some]
    cases holdsP pk (os pv) (os p) with
    | false => rfl
    | true => rw [if_pos rfl, if_pos rfl, go_p pk pv m q hp k (by omega) l (h, p, hd) n (fun f hf => ⟨hl f hf, allF_may ha f hf⟩) hd1 (by omega) hs]
theorem allF_one (x : FT) : allF [x] = mayF x := by unfold allF goB goB; simp
theorem filter_awake (k : Nat) (hk : 3000 ≤ k) : tolllaw07_awake.f k = some true := by
  have sm : Small 0 ([] : List PT) := ⟨Nat.le_refl _, fun x hx => by cases hx⟩
  have s1 : ∀ x : FT, (decide ((os x.f1).length ≤ 100) && (decide ((os x.f2).length ≤ 100) && (decide ((os x.f3).length ≤ 100) && decide ((os x.f5).length ≤ 100)))) = true → ∀ y ∈ [x], SF y := fun x h y hy => by
    rw [List.mem_singleton.1 hy]
    simpa [SF] using h
  unfold tolllaw07_awake.f
  rw [do_p _ _ _ _ _ _ _ _ (s1 _ (by decide)) (by decide) (by decide) (by decide) (by decide) sm k (by omega), Option.bind_some]
  rw [do_p _ _ _ _ _ _ _ _ (s1 _ (by decide)) (by decide) (by decide) (by decide) (by decide) sm k (by omega), Option.bind_some]
  have d1 : doP [(⟨1, (⟨#[120]⟩ : ByteArray), (⟨#[49]⟩ : ByteArray), (⟨#[]⟩ : ByteArray), 0, (⟨#[]⟩ : ByteArray), false, 0⟩ : FT)] 2 (⟨#[47, 97]⟩ : ByteArray) (⟨#[]⟩ : ByteArray) (⟨#[]⟩ : ByteArray) (⟨#[47, 97]⟩ : ByteArray) [] [] = ((⟨#[]⟩ : ByteArray), (⟨#[]⟩ : ByteArray), (⟨#[47, 97]⟩ : ByteArray), [], [(⟨(⟨#[120]⟩ : ByteArray), (⟨#[49]⟩ : ByteArray)⟩ : PT)], 0) := by
    unfold doP
    rw [if_pos (by decide), if_pos (by decide)]
    rfl
  have d2 : doP [(⟨5, (⟨#[]⟩ : ByteArray), (⟨#[]⟩ : ByteArray), (⟨#[]⟩ : ByteArray), 0, (⟨#[47, 120]⟩ : ByteArray), false, 0⟩ : FT)] 2 (⟨#[47, 97]⟩ : ByteArray) (⟨#[]⟩ : ByteArray) (⟨#[]⟩ : ByteArray) (⟨#[47, 97, 47, 98]⟩ : ByteArray) [] [] = ((⟨#[]⟩ : ByteArray), (⟨#[]⟩ : ByteArray), (⟨#[47, 120, 47, 98]⟩ : ByteArray), [], [], 0) := by
    unfold doP
    rw [if_pos (by decide), if_pos (by decide)]
    rfl
  rw [d1, d2]
  have d3 : filter_Away.f k (([(⟨4, (⟨#[]⟩ : ByteArray), (⟨#[]⟩ : ByteArray), (⟨#[98, 46, 116, 101, 115, 116]⟩ : ByteArray), 0, (⟨#[]⟩ : ByteArray), false, 301⟩ : FT)] : List FT)) 2 (⟨#[47, 97]⟩ : ByteArray) (⟨#[]⟩ : ByteArray) (⟨#[]⟩ : ByteArray) (⟨#[47, 97]⟩ : ByteArray) ([] : List PT) ([] : List PT) true = some (301, (⟨#[104, 116, 116, 112, 115, 58, 47, 47]⟩ : ByteArray) ++ (⟨#[98, 46, 116, 101, 115, 116]⟩ : ByteArray) ++ (⟨#[47, 97]⟩ : ByteArray), 0) := by
    have hn : nm [98, 46, 116, 101, 115, 116] = true := by rw [nm_eq]; decide
    have ha : allF [(⟨4, (⟨#[]⟩ : ByteArray), (⟨#[]⟩ : ByteArray), (⟨#[98, 46, 116, 101, 115, 116]⟩ : ByteArray), 0, (⟨#[]⟩ : ByteArray), false, 301⟩ : FT)] = true := by
      rw [allF_one]
      unfold mayF mayJ turnsF
      simp only [os, hn]
      decide
    obtain ⟨m, rfl⟩ : ∃ m, k = m + 5 := ⟨k - 5, by omega⟩
    unfold filter_Away.f
    rw [all_f _ _ (by omega) (s1 _ (by decide)), ha, Option.bind_some, if_pos rfl, path_holds _ _ _ _ (by omega) (by decide), Option.bind_some]
    rw [show holdsP 2 (os (⟨#[47, 97]⟩ : ByteArray)) (os (⟨#[47, 97]⟩ : ByteArray)) = true by decide]
    rw [filter_Away.j0, if_neg (by decide)]
    rw [show slices_IndexFunc_with_filter_Away_1.f [(⟨4, (⟨#[]⟩ : ByteArray), (⟨#[]⟩ : ByteArray), (⟨#[98, 46, 116, 101, 115, 116]⟩ : ByteArray), 0, (⟨#[]⟩ : ByteArray), false, 301⟩ : FT)] = some 0 from rfl, Option.bind_some, if_neg (by decide), if_pos (by decide), if_pos (by decide), if_pos rfl]
    rw [show rd_T26 [(⟨4, (⟨#[]⟩ : ByteArray), (⟨#[]⟩ : ByteArray), (⟨#[98, 46, 116, 101, 115, 116]⟩ : ByteArray), 0, (⟨#[]⟩ : ByteArray), false, 301⟩ : FT)] 0 = (⟨4, (⟨#[]⟩ : ByteArray), (⟨#[]⟩ : ByteArray), (⟨#[98, 46, 116, 101, 115, 116]⟩ : ByteArray), 0, (⟨#[]⟩ : ByteArray), false, 301⟩ : FT) from rfl]
    dsimp only
    rw [filter_Away.j1, if_neg (by rw [toList_os]; decide), filter_Away.j2, if_pos (by decide), if_pos (show (0 : Int) = 0 from rfl), filter_Away.j3, if_neg (by decide)]
    have hb := bec_p (⟨4, (⟨#[]⟩ : ByteArray), (⟨#[]⟩ : ByteArray), (⟨#[98, 46, 116, 101, 115, 116]⟩ : ByteArray), 0, (⟨#[]⟩ : ByteArray), false, 301⟩ : FT) (s1 _ (by decide) _ List.mem_cons_self) 2 (⟨#[47, 97]⟩ : ByteArray) (⟨#[47, 97]⟩ : ByteArray) (by decide) (by decide) (m + 1) (by omega)
    dsimp only at hb
    rw [hb, Option.bind_some]
    rfl
  rw [d3]
  simp only [Option.bind_some]
  rw [same4 _ k (by decide) (by omega), Option.bind_some]
  simp only [toList_os, if_true]
  rw [if_pos (by decide)]
end Go.Proofs.YtfdopmjgiakcdaaGreatDoor.L
namespace Go.Proofs.YtfdopmjgiakcdaaGreatDoor.L
open Go Go.RowKit Go.Proofs.YtfdopmjgiakcdaaGreatDoor.P Go.Proofs.YtfdopmjgiakcdaaGreatDoorW.PrintWords Go.Proofs.YtfdopmjgiakcdaaGreatDoorW.PrintLast
theorem few3_p (k : Int) (s : ByteArray) : tolllaw03_Few.f k s = some (k, few s) := by
  unfold tolllaw03_Few.f
  rw [few_eq, Option.bind_some]
theorem asked_p (m h p : ByteArray) (q hd : List PT) (k : Nat) (hk : 70 ≤ k) : tolllaw06_Asked.f k m h p q hd = some (few m, few h, few p, fewL q, fewL hd) := by
  unfold tolllaw06_Asked.f
  rw [few_eq, Option.bind_some, few_eq, Option.bind_some, few_eq, Option.bind_some, fewL_eq _ _ hk, Option.bind_some, fewL_eq _ _ hk, Option.bind_some]
theorem goD_two (pk : Int) (pv m : ByteArray) (q : List PT) : ∀ (r : List FT) (st : St), (∃ e, e ≠ 0 ∧ goD pk pv m q st r = errD e) ∨ (goD pk pv m q st r).2.2.2.2.2 = 0 := by
  intro r
  induction r with
  | nil =>
    intro st
    unfold goD
    split
    · exact .inl ⟨5, by decide, rfl⟩
    · exact .inr rfl
  | cons f r ih =>
    intro st
    unfold goD
    split
    · exact ih _
    · next h => exact .inl ⟨_, h, rfl⟩
theorem doP_two (l : List FT) (pk : Int) (pv m h p : ByteArray) (q hd : List PT) : (∃ e, e ≠ 0 ∧ doP l pk pv m h p q hd = errD e) ∨ (allF l = true ∧ holdsP pk (os pv) (os p) = true ∧ doP l pk pv m h p q hd = goD pk pv m q (h, p, hd) l ∧ (goD pk pv m q (h, p, hd) l).2.2.2.2.2 = 0) := by
  unfold doP
  cases ha : allF l with
  | false => exact .inl ⟨1, by decide, rfl⟩
  | true =>
    cases hh : holdsP pk (os pv) (os p) with
    | false => exact .inl ⟨1, by decide, rfl⟩
    | true =>
      rw [if_pos rfl, if_pos rfl]
      rcases goD_two pk pv m q l (h, p, hd) with h1 | h1
      · exact .inl h1
      · exact .inr ⟨rfl, rfl, rfl, h1⟩
end Go.Proofs.YtfdopmjgiakcdaaGreatDoor.L
namespace Go.Proofs.YtfdopmjgiakcdaaGreatDoor.L
open Go Go.RowKit Go.Proofs.YtfdopmjgiakcdaaGreatDoor.P Go.Proofs.YtfdopmjgiakcdaaGreatDoorW.PrintWords Go.Proofs.YtfdopmjgiakcdaaGreatDoorW.PrintLast
theorem same_loop1 (m h p : ByteArray) (q l : List PT) (hl : l.length ≤ 1000) : ∀ (n i k : Nat), l.length - i ≤ n → i ≤ l.length → n + 1 ≤ k → tollref07_SameAsk.l1 k (i : Int) m h p q l m h p q l = some true := by
  intro n
  induction n with
  | zero =>
    intro i k h1 h2 h3
    obtain ⟨k, rfl⟩ : ∃ m, k = m + 1 := ⟨k - 1, by omega⟩
    rw [tollref07_SameAsk.l1, if_neg (by omega)]
  | succ n ih =>
    intro i k h1 h2 h3
    obtain ⟨k, rfl⟩ : ∃ m, k = m + 1 := ⟨k - 1, by omega⟩
    rw [tollref07_SameAsk.l1]
    by_cases hi : i < l.length
    · rw [if_pos (by omega), if_pos (by omega), if_pos (by omega), if_neg (by simp), wrapS (by omega)]
      exact ih (i + 1) k (by omega) (by omega) (by omega)
    · rw [if_neg (by omega)]
theorem same_loop0 (m h p : ByteArray) (q l : List PT) (hq : q.length ≤ 1000) (hl : l.length ≤ 1000) : ∀ (n i k : Nat), q.length - i ≤ n → i ≤ q.length → n + 1003 ≤ k → tollref07_SameAsk.l0 k (i : Int) m h p q l m h p q l = some true := by
  intro n
  induction n with
  | zero =>
    intro i k h1 h2 h3
    obtain ⟨k, rfl⟩ : ∃ m, k = m + 1 := ⟨k - 1, by omega⟩
    rw [tollref07_SameAsk.l0, if_neg (by omega)]
    exact same_loop1 m h p q l hl l.length 0 k (by omega) (by omega) (by omega)
  | succ n ih =>
    intro i k h1 h2 h3
    obtain ⟨k, rfl⟩ : ∃ m, k = m + 1 := ⟨k - 1, by omega⟩
    rw [tollref07_SameAsk.l0]
    by_cases hi : i < q.length
    · rw [if_pos (by omega), if_pos (by omega), if_pos (by omega), if_neg (by simp), wrapS (by omega)]
      exact ih (i + 1) k (by omega) (by omega) (by omega)
    · rw [if_neg (by omega)]
      exact same_loop1 m h p q l hl l.length 0 k (by omega) (by omega) (by omega)
theorem same_ask (m h p : ByteArray) (q l : List PT) (hq : q.length ≤ 1000) (hl : l.length ≤ 1000) (k : Nat) (hk : 2010 ≤ k) : tollref07_SameAsk.f k m h p q l m h p q l = some true := by
  obtain ⟨k, rfl⟩ : ∃ m, k = m + 1 := ⟨k - 1, by omega⟩
  unfold tollref07_SameAsk.f
  rw [if_pos rfl, if_pos rfl, if_pos rfl, if_pos rfl, tollref07_SameAsk.j0, if_neg (by simp)]
  exact same_loop0 m h p q l hq hl q.length 0 k (by omega) (by omega) (by omega)
noncomputable def headS (f : FT) (hd : List PT) : List PT :=
  if f.f0 = 1 then setL f.f1 f.f2 hd false else if f.f0 = 2 then hd ++ [⟨f.f1, f.f2⟩] else if f.f0 = 3 then hd.filter fun x => !eqN x.f0 f.f1 else hd
theorem stepB_head (pk : Int) (pv : ByteArray) (f : FT) (st : St) : (stepB pk pv f st).1.2.2 = headS f st.2.2 := by
  unfold stepB headS
  by_cases h1 : f.f0 = 1
  · rw [if_pos h1, if_pos h1]
  rw [if_neg h1, if_neg h1]
  by_cases h2 : f.f0 = 2
  · rw [if_pos h2, if_pos h2]
  rw [if_neg h2, if_neg h2]
  by_cases h3 : f.f0 = 3
  · rw [if_pos h3, if_pos h3]
  rw [if_neg h3, if_neg h3]
  by_cases h4 : f.f0 = 4
  · rw [if_pos h4]
  · rw [if_neg h4]
noncomputable def headF (l : List FT) (hd : List PT) : List PT := l.foldl (fun h f => headS f h) hd
theorem goD_ok (pk : Int) (pv m : ByteArray) (q : List PT) : ∀ (r : List FT) (st : St), (goD pk pv m q st r).2.2.2.2.2 = 0 → (goD pk pv m q st r).1 = m ∧ (goD pk pv m q st r).2.2.2.1 = q ∧ (goD pk pv m q st r).2.2.2.2.1 = headF r st.2.2 ∧ (headF r st.2.2).length ≤ 30 := by
  intro r
  induction r with
  | nil =>
    intro st h
    unfold goD at h ⊢
    split at h
    · cases h
    · next hl => rw [if_neg hl]; exact ⟨rfl, rfl, rfl, by show st.2.2.length ≤ 30; omega⟩
  | cons f r ih =>
    intro st h
    unfold goD at h ⊢
    split at h
    · next h0 =>
      rw [if_pos h0]
      have := ih _ h
      rw [stepB_head] at this
      exact this
    · next h0 => exact absurd h h0
theorem cut_p (l : List FT) (pk : Int) (pv m h p : ByteArray) (q hd : List PT) (b : Bool) (k : Nat) (hk : 70 ≤ k) : tolllaw07_cut.f k l pk pv m h p q hd b = some (fewF l, pk, few pv, few m, few h, few p, fewL q, fewL hd, b) := by
  unfold tolllaw07_cut.f
  rw [fewF_eq _ _ hk, Option.bind_some, few3_p, Option.bind_some, asked_p _ _ _ _ _ _ hk, Option.bind_some]
end Go.Proofs.YtfdopmjgiakcdaaGreatDoor.L
namespace Go.Proofs.YtfdopmjgiakcdaaGreatDoor.L
open Go Go.RowKit Go.Proofs.YtfdopmjgiakcdaaGreatDoor.P Go.Proofs.YtfdopmjgiakcdaaGreatDoorW.PrintWords Go.Proofs.YtfdopmjgiakcdaaGreatDoorW.PrintLast
noncomputable def begA (tls : Bool) : ByteArray := if tls = true then (⟨#[104, 116, 116, 112, 115, 58, 47, 47]⟩ : ByteArray) else (⟨#[104, 116, 116, 112, 58, 47, 47]⟩ : ByteArray)
noncomputable def plainA (tls : Bool) : Int := if tls = true then 443 else 80
noncomputable def hostA (f : FT) (h : ByteArray) : ByteArray := if os f.f3 = [] then h else f.f3
noncomputable def addrA (tls : Bool) (f : FT) (h : ByteArray) : ByteArray := if f.f4 ≠ 0 ∧ f.f4 ≠ plainA tls then (begA tls ++ hostA f h) ++ ((⟨#[58]⟩ : ByteArray) ++ (⟨(Go.Lib.itoa f.f4).toArray⟩ : ByteArray)) else begA tls ++ hostA f h
noncomputable def awayF (tls : Bool) (f : FT) (pk : Int) (pv h p : ByteArray) : Int × ByteArray × Int := if (becB f pk pv p).2 = 0 then (f.f7, addrA tls f h ++ (becB f pk pv p).1, 0) else (0, (⟨#[]⟩ : ByteArray), (becB f pk pv p).2)
noncomputable def awayP (L : List FT) (pk : Int) (pv h p : ByteArray) (tls : Bool) : Int × ByteArray × Int :=
  if allF L = true then (if holdsP pk (os pv) (os p) = true then (if idxI (fun x : FT => decide (x.f0 = 4)) L < 0 then (0, (⟨#[]⟩ : ByteArray), 3) else awayF tls (rd_T26 L (idxI (fun x : FT => decide (x.f0 = 4)) L)) pk pv h p) else (0, (⟨#[]⟩ : ByteArray), 1)) else (0, (⟨#[]⟩ : ByteArray), 1)
theorem away_f {x : FT} (h : mayF x = true) (h4 : x.f0 = 4) : turnsF x = true ∧ 0 ≤ x.f4 ∧ x.f4 ≤ 65535 ∧ (x.f7 = 301 ∨ x.f7 = 302) := by
  unfold mayF mayJ at h
  rw [h4, if_neg (by decide), if_neg (by decide), if_pos rfl] at h
  simp only [Bool.and_eq_true, decide_eq_true_eq, Bool.or_eq_true, beq_iff_eq] at h
  exact ⟨h.2.1, h.2.2.1, h.2.2.2.1, h.2.2.2.2⟩
theorem away_j1 (x : FT) (hx : SF x) (hm : mayF x = true) (h4 : x.f0 = 4) (tls : Bool) (pk : Int) (pv m h p : ByteArray) (q hd : List PT) (hv : (os pv).length ≤ 100) (hh : (os h).length ≤ 100) (hp : (os p).length ≤ 100) (k : Nat) (hk : 10 ≤ k) :
    filter_Away.j1 k (begA tls) (plainA tls) pk pv m h p q hd x.f0 x.f1 x.f2 x.f3 x.f4 x.f5 x.f6 x.f7 = some (awayF tls x pk pv h p) := by
  obtain ⟨k, rfl⟩ : ∃ z, k = z + 3 := ⟨k - 3, by omega⟩
  obtain ⟨_, g1, g2, _⟩ := away_f hm h4
  have hb : (begA tls).size ≤ 8 := by cases tls <;> decide
  have hit := Go.Lib.itoa_length_le x.f4 (by omega) (by omega)
  have hpl := bec_len x hx pk pv p hp
  have hbz := size_os (becB x pk pv p).1
  have hbec := bec_p x hx pk pv p hv hp k (by omega)
  have J3 : ∀ z : ByteArray, (os z).length ≤ 100 → filter_Away.j2 (k + 2) (begA tls) (plainA tls) pk pv m z p q hd x.f0 x.f1 x.f2 x.f3 x.f4 x.f5 x.f6 x.f7 =
      some (if (becB x pk pv p).2 = 0 then (x.f7, (if x.f4 ≠ 0 ∧ x.f4 ≠ plainA tls then (begA tls ++ z) ++ ((⟨#[58]⟩ : ByteArray) ++ (⟨(Go.Lib.itoa x.f4).toArray⟩ : ByteArray)) else begA tls ++ z) ++ (becB x pk pv p).1, 0) else (0, (⟨#[]⟩ : ByteArray), (becB x pk pv p).2)) := by
    intro z hz
    have hzz := size_os z
    have hcz : (begA tls ++ z).size ≤ 200 := by rw [ByteArray.size_append]; omega
    have K : ∀ b : Bool, (b = true ↔ x.f4 ≠ 0 ∧ x.f4 ≠ plainA tls) → filter_Away.j3 (k + 1) (begA tls ++ z) b pk pv m z p q hd x.f0 x.f1 x.f2 x.f3 x.f4 x.f5 x.f6 x.f7 =
        some (if (becB x pk pv p).2 = 0 then (x.f7, (if x.f4 ≠ 0 ∧ x.f4 ≠ plainA tls then (begA tls ++ z) ++ ((⟨#[58]⟩ : ByteArray) ++ (⟨(Go.Lib.itoa x.f4).toArray⟩ : ByteArray)) else begA tls ++ z) ++ (becB x pk pv p).1, 0) else (0, (⟨#[]⟩ : ByteArray), (becB x pk pv p).2)) := by
      intro b hbb
      rw [filter_Away.j3]
      cases b with
      | true =>
        have hi1 : (⟨(Go.Lib.itoa x.f4).toArray⟩ : ByteArray).size ≤ 21 := by rw [size_os]; exact hit
        have hc2 : ((⟨#[58]⟩ : ByteArray) ++ (⟨(Go.Lib.itoa x.f4).toArray⟩ : ByteArray)).size ≤ 30 := by rw [ByteArray.size_append]; show 1 + _ ≤ 30; omega
        have hc3 : ((begA tls ++ z) ++ ((⟨#[58]⟩ : ByteArray) ++ (⟨(Go.Lib.itoa x.f4).toArray⟩ : ByteArray))).size ≤ 300 := by rw [ByteArray.size_append]; omega
        rw [if_pos rfl, if_pos (hbb.1 rfl)]
        unfold strconv_Itoa_47.f
        rw [if_pos ⟨by omega, by omega⟩, Option.bind_some, if_pos (by omega), if_pos (by omega), hbec, Option.bind_some]
        by_cases h0 : (becB x pk pv p).2 = 0
        · rw [if_pos h0, if_pos h0, if_pos (by omega)]
        · rw [if_neg h0, if_neg h0]
      | false =>
        have hn : ¬ (x.f4 ≠ 0 ∧ x.f4 ≠ plainA tls) := fun hc => by have := hbb.2 hc; cases this
        rw [if_neg (show ¬ (false = true) by decide), if_neg hn, hbec, Option.bind_some]
        by_cases h0 : (becB x pk pv p).2 = 0
        · rw [if_pos h0, if_pos h0, if_pos (by omega)]
        · rw [if_neg h0, if_neg h0]
    rw [filter_Away.j2, if_pos (by omega)]
    by_cases h0 : x.f4 = 0
    · rw [if_pos h0]; exact K false ⟨fun h => (by cases h), fun h => absurd h0 h.1⟩
    · rw [if_neg h0]; exact K _ ⟨fun h => ⟨h0, bne_iff_ne.1 h⟩, fun h => bne_iff_ne.2 h.2⟩
  unfold awayF addrA hostA
  rw [filter_Away.j1, toList_os]
  by_cases h3 : os x.f3 = []
  · rw [if_pos h3, J3 h hh]; simp only [h3, if_true]
  · rw [if_neg h3, J3 x.f3 hx.2.2.1]; simp only [if_neg h3]
theorem away_p (L : List FT) (hL : ∀ f ∈ L, SF f) (_hl9 : L.length ≤ 1000) (pk : Int) (pv m h p : ByteArray) (q hd : List PT) (tls : Bool) (hv : (os pv).length ≤ 100) (hh : (os h).length ≤ 100) (hp : (os p).length ≤ 100) (k : Nat) (hk : 2400 ≤ k) :
    filter_Away.f k L pk pv m h p q hd tls = some (awayP L pk pv h p tls) := by
  obtain ⟨k, rfl⟩ : ∃ z, k = z + 1 := ⟨k - 1, by omega⟩
  unfold filter_Away.f awayP
  rw [all_f L _ (by omega) hL, Option.bind_some]
  cases ha : allF L with
  | false => rw [if_neg (show ¬ (false = true) by decide), if_neg (show ¬ (false = true) by decide), filter_Away.j0, if_pos rfl]
  | true =>
    rw [if_pos rfl, if_pos rfl, path_holds _ _ _ _ (by omega) (by rw [size_os]; omega), Option.bind_some]
    cases holdsP pk (os pv) (os p) with
    | false => rw [if_neg (show ¬ (false = true) by decide), filter_Away.j0, if_pos (by decide)]
    | true =>
      rw [if_pos rfl, filter_Away.j0, if_neg (by decide)]
      rw [show slices_IndexFunc_with_filter_Away_1.f L = some (idxI (fun x : FT => decide (x.f0 = 4)) L) from rfl, Option.bind_some]
      rcases idxI_two (fun x : FT => decide (x.f0 = 4)) L with ⟨e, _⟩ | ⟨i, hi, e, h4, _⟩
      · rw [e, if_pos (by decide), if_pos (by decide)]
      · have hi0 : ¬ ((i : Int) < 0) := by omega
        rw [e, if_neg hi0, if_pos (by omega), if_pos (by omega), if_neg hi0, rdF L i hi]
        have hf := hL _ (List.getElem_mem hi)
        have hmf := allF_may ha _ (List.getElem_mem hi)
        have := away_j1 (L[i]'hi) hf hmf (of_decide_eq_true h4) tls pk pv m h p q hd hv hh hp k (by omega)
        cases tls with
        | true => rw [if_pos rfl]; exact this
        | false => rw [if_neg (by decide)]; exact this
end Go.Proofs.YtfdopmjgiakcdaaGreatDoor.L
namespace Go.Proofs.YtfdopmjgiakcdaaGreatDoor.L
open Go Go.RowKit Go.Proofs.YtfdopmjgiakcdaaGreatDoor.P Go.Proofs.YtfdopmjgiakcdaaGreatDoorW.PrintWords Go.Proofs.YtfdopmjgiakcdaaGreatDoorW.PrintLast
theorem becR_p (f : FT) (hf : SF f) (pk : Int) (pv s : ByteArray) (hp : (os pv).length ≤ 100) (hs : (os s).length ≤ 100) (k : Nat) (hk : 400 ≤ k) : tollref07_becomes.f k f.f0 f.f1 f.f2 f.f3 f.f4 f.f5 f.f6 f.f7 pk pv s = some (becB f pk pv s) := by
  unfold tollref07_becomes.f becB
  rw [toList_os]
  by_cases h5 : os f.f5 = []
  · rw [if_pos h5, if_pos h5]
  · rw [if_neg h5, if_neg h5]
    by_cases h6 : f.f6 = true
    · rw [if_pos h6, if_pos (.inl h6)]
    · rw [if_neg h6]
      by_cases h1 : pk = 1
      · rw [if_pos h1, if_pos (.inr h1)]
      · rw [if_neg h1, if_neg (fun h => h.elim h6 h1)]
        have z1 := size_os pv
        have z2 := size_os f.f5
        have z3 := size_os s
        have z4 := hf.2.2.2
        obtain ⟨t, e, h, g⟩ := ref_swap pk pv f.f5 s k (by omega) (by omega) (by omega) (by omega)
        rw [h, Option.bind_some, ← g]
theorem doR_loop (L : List FT) (hL : ∀ f ∈ L, SF f) (hm : ∀ f ∈ L, mayF f = true) (pk : Int) (pv m : ByteArray) (q : List PT) (hv : (os pv).length ≤ 100) (hl9 : L.length ≤ 9) :
    ∀ (c i k n : Nat) (h p : ByteArray) (hd : List PT), L.length - i = c → i ≤ L.length → Small n hd → n + c ≤ 60 → (os p).length ≤ 100 → c + 500 ≤ k → tollref07_Do.l0 k L (i : Int) pk pv m h p q hd = some (goD pk pv m q (h, p, hd) (L.drop i)) := by
  intro c
  induction c with
  | zero =>
    intro i k n h p hd h1 h2 h3 h4 h5 h6
    obtain ⟨k, rfl⟩ : ∃ z, k = z + 1 := ⟨k - 1, by omega⟩
    obtain rfl : i = L.length := by omega
    rw [tollref07_Do.l0, if_neg (by omega), List.drop_length]
    unfold goD errD
    by_cases hb : hd.length > 30
    · rw [if_pos (by omega), if_pos hb]
    · rw [if_neg (by omega), if_neg hb]
  | succ c ih =>
    intro i k n h p hd h1 h2 h3 h4 h5 h6
    obtain ⟨k, rfl⟩ : ∃ z, k = z + 1 := ⟨k - 1, by omega⟩
    have hi : i < L.length := by omega
    have hf := hL _ (List.getElem_mem hi)
    have hkd := may_kind (hm _ (List.getElem_mem hi))
    have hss := step_small pk pv (L[i]'hi) (h, p, hd) hf h5 h3
    have hsm : Small 100 hd := h3.mono (by omega)
    rw [List.drop_eq_getElem_cons hi, tollref07_Do.l0, if_pos (by omega), if_pos (by omega), rdF L i hi, wrapF (by omega)]
    generalize hx : L[i]'hi = x at *
    have nx : ∀ st : St, stepB pk pv x (h, p, hd) = (st, 0) → tollref07_Do.l0 k L ((i + 1 : Nat) : Int) pk pv m st.1 st.2.1 q st.2.2 = some (goD pk pv m q (h, p, hd) (x :: L.drop (i + 1))) := by
      intro st hst
      rw [hst] at hss
      rw [ih (i + 1) k (n + 1) st.1 st.2.1 st.2.2 (by omega) (by omega) hss.1 (by omega) hss.2 (by omega)]
      conv => rhs; unfold goD
      rw [hst, if_pos rfl]
    by_cases k1 : x.f0 = 1
    · rw [if_pos k1, set_r hf.1 _ hsm k (by omega), Option.bind_some]
      exact nx (h, p, setL x.f1 x.f2 hd false) (by unfold stepB; rw [if_pos k1])
    rw [if_neg k1]
    by_cases k2 : x.f0 = 2
    · have hlen := h3.1
      rw [if_pos k2, Option.bind_some, if_pos (by rw [List.length_nil]; omega), Option.bind_some, Option.bind_some, if_pos (by simp; omega), List.nil_append]
      exact nx (h, p, hd ++ [⟨x.f1, x.f2⟩]) (by unfold stepB; rw [if_neg k1, if_pos k2])
    rw [if_neg k2]
    by_cases k3 : x.f0 = 3
    · rw [if_pos k3, drop_r hf.1 hsm k (by omega), Option.bind_some]
      exact nx (h, p, hd.filter fun y => !eqN y.f0 x.f1) (by unfold stepB; rw [if_neg k1, if_neg k2, if_pos k3])
    rw [if_neg k3]
    by_cases k4 : x.f0 = 4
    · rw [if_neg (by omega)]
      exact nx (h, p, hd) (by unfold stepB; rw [if_neg k1, if_neg k2, if_neg k3, if_pos k4])
    have hst : stepB pk pv x (h, p, hd) = ((if os x.f3 = [] then h else x.f3, (becB x pk pv p).1, hd), (becB x pk pv p).2) := by
      unfold stepB
      rw [if_neg k1, if_neg k2, if_neg k3, if_neg k4]
    rw [if_pos (by omega), becR_p x hf pk pv p hv h5 k (by omega), Option.bind_some, Option.bind_some, toList_os]
    by_cases h0 : (becB x pk pv p).2 = 0
    · rw [if_pos h0, if_pos h0]
      have hst' : stepB pk pv x (h, p, hd) = ((if os x.f3 = [] then h else x.f3, (becB x pk pv p).1, hd), 0) := by rw [hst, h0]
      have := nx _ hst'
      by_cases e3 : os x.f3 = []
      · rw [if_pos e3] at this ⊢; exact this
      · rw [if_neg e3] at this ⊢; exact this
    · rw [if_neg h0, if_neg h0]
      have hg : goD pk pv m q (h, p, hd) (x :: L.drop (i + 1)) = errD (becB x pk pv p).2 := by
        unfold goD
        rw [hst, if_neg h0]
      rw [hg]
      by_cases e3 : os x.f3 = []
      · rw [if_pos e3]; rfl
      · rw [if_neg e3]; rfl
theorem doR_p (L : List FT) (hL : ∀ f ∈ L, SF f) (hl9 : L.length ≤ 9) (pk : Int) (pv m h p : ByteArray) (q hd : List PT) (hv : (os pv).length ≤ 100) (hp : (os p).length ≤ 100) (hd1 : Small 31 hd) (k : Nat) (hk : 7000 ≤ k) : tollref07_Do.f k L pk pv m h p q hd = some (doP L pk pv m h p q hd) := by
  obtain ⟨k, rfl⟩ : ∃ z, k = z + 1 := ⟨k - 1, by omega⟩
  have z1 := size_os pv
  have z2 := size_os p
  unfold tollref07_Do.f doP
  rw [all_r' L _ (by omega) hl9 hL, Option.bind_some]
  cases ha : allF L with
  | false => rw [if_neg (show ¬ (false = true) by decide), if_neg (show ¬ (false = true) by decide), tollref07_Do.j0, if_pos rfl]; rfl
  | true =>
    rw [if_pos rfl, if_pos rfl, ref_holds _ _ _ _ (by omega) (by omega) (by omega), Option.bind_some, tollref07_Do.j0]
    cases holdsP pk (os pv) (os p) with
    | false => rw [if_pos (by decide), if_neg (by decide)]; rfl
    | true =>
      rw [if_neg (by decide), if_pos rfl]
      have := doR_loop L hL (allF_may ha) pk pv m q hv hl9 L.length 0 k 31 h p hd rfl (Nat.zero_le _) hd1 (by omega) hp (by omega)
      rw [List.drop_zero] at this
      exact this
theorem digit_b : ∀ d : Fin 10, UInt8.ofNat ((wrap64 (48 + Int.tmod ((d : Nat) : Int) 10)) % 256).toNat = UInt8.ofNat (48 + (d : Nat)) := by decide +kernel
theorem digits_loop : ∀ (c u k : Nat) (acc : ByteArray), u ≤ c → 0 < u → u ≤ 65535 → acc.size ≤ 100 + (65535 - u) → u + 2 ≤ k → tollref07_Digits.l0 k (u : Int) acc = some ((⟨(Go.Lib.decDigits u).toArray⟩ : ByteArray) ++ acc) := by
  intro c
  induction c with
  | zero => intro u k acc h1 h2; omega
  | succ c ih =>
    intro u k acc h1 h2 h3 h4 h5
    obtain ⟨k, rfl⟩ : ∃ z, k = z + 1 := ⟨k - 1, by omega⟩
    have hmod : Int.tmod (u : Int) 10 = Int.tmod (((⟨u % 10, by omega⟩ : Fin 10) : Nat) : Int) 10 := by
      show Int.tmod (u : Int) 10 = Int.tmod ((u % 10 : Nat) : Int) 10
      rw [Int.tmod_eq_emod_of_nonneg (by omega), Int.tmod_eq_emod_of_nonneg (by omega)]; omega
    have hdig : os (strOfNums [(wrap64 (48 + Int.tmod (u : Int) 10)) % 256]) = [UInt8.ofNat (48 + u % 10)] := by
      rw [nums1, hmod, digit_b]
    have hone : (strOfNums [(wrap64 (48 + Int.tmod (u : Int) 10)) % 256]).size = 1 := by rw [size_os, hdig]; rfl
    have hdiv : wrap64 (Int.tdiv (u : Int) 10) = ((u / 10 : Nat) : Int) := by
      rw [Int.tdiv_eq_ediv_of_nonneg (by omega), wrap64_id (by omega) (by omega)]; omega
    rw [tollref07_Digits.l0, if_pos (by omega), Option.bind_some, if_pos (by omega), hdiv]
    by_cases h10 : u < 10
    · obtain ⟨k, rfl⟩ : ∃ z, k = z + 1 := ⟨k - 1, by omega⟩
      rw [show u / 10 = 0 by omega, tollref07_Digits.l0, if_neg (by decide), Go.Lib.decDigits_one h10]
      congr 1
      refine os_inj ?_
      rw [os_append, os_append, hdig, show u % 10 = u by omega]
    · rw [ih (u / 10) k _ (by omega) (by omega) (by omega) (by rw [ByteArray.size_append, hone]; omega) (by omega)]
      congr 1
      refine os_inj ?_
      rw [os_append, os_append, os_append, hdig]
      conv => rhs; rw [Go.Lib.decDigits, dif_neg h10]
      rw [← List.append_assoc]
theorem digits_p (n : Int) (h0 : 0 < n) (h1 : n ≤ 65535) (k : Nat) (hk : 65600 ≤ k) : tollref07_Digits.f k n = some (⟨(Go.Lib.itoa n).toArray⟩ : ByteArray) := by
  obtain ⟨u, rfl⟩ : ∃ u : Nat, n = (u : Int) := ⟨n.toNat, by omega⟩
  unfold tollref07_Digits.f Go.Lib.itoa
  rw [digits_loop u u k _ (Nat.le_refl _) (by omega) (by omega) (by show 0 ≤ _; omega) (by omega), if_neg (by omega), Int.toNat_natCast]
  congr 1
  refine os_inj ?_
  rw [os_append]
  exact List.append_nil _
theorem awayR_j2 (x : FT) (hx : SF x) (hm : mayF x = true) (h4 : x.f0 = 4) (tls : Bool) (pk : Int) (pv m h p : ByteArray) (q hd : List PT) (hv : (os pv).length ≤ 100) (hh : (os h).length ≤ 100) (hp : (os p).length ≤ 100) (k : Nat) (hk : 65700 ≤ k) :
    tollref07_Away.j2 k tls (hostA x h) pk pv m h p q hd x.f0 x.f1 x.f2 x.f3 x.f4 x.f5 x.f6 x.f7 = some (awayF tls x pk pv h p) := by
  obtain ⟨k, rfl⟩ : ∃ z, k = z + 3 := ⟨k - 3, by omega⟩
  obtain ⟨_, g1, g2, _⟩ := away_f hm h4
  have hit := Go.Lib.itoa_length_le x.f4 (by omega) (by omega)
  have hpl := bec_len x hx pk pv p hp
  have hbz := size_os (becB x pk pv p).1
  have hbec := becR_p x hx pk pv p hv hp k (by omega)
  have hho : (hostA x h).size ≤ 100 := by rw [size_os]; unfold hostA; split; exact hh; exact hx.2.2.1
  have J4 : ∀ z : ByteArray, z.size ≤ 200 → tollref07_Away.j4 (k + 1) tls z pk pv m h p q hd x.f0 x.f1 x.f2 x.f3 x.f4 x.f5 x.f6 x.f7 = some (if (becB x pk pv p).2 = 0 then (x.f7, (begA tls ++ z) ++ (becB x pk pv p).1, 0) else (0, (⟨#[]⟩ : ByteArray), (becB x pk pv p).2)) := by
    intro z hz
    rw [tollref07_Away.j4, hbec, Option.bind_some]
    by_cases h0 : (becB x pk pv p).2 = 0
    · rw [if_pos h0, if_pos h0]
      cases tls with
      | true =>
        have hc : ((⟨#[104, 116, 116, 112, 115, 58, 47, 47]⟩ : ByteArray) ++ z).size ≤ 300 := by rw [ByteArray.size_append]; show 8 + z.size ≤ 300; omega
        rw [if_pos rfl, if_pos (by omega), if_pos (by omega)]; rfl
      | false =>
        have hc : ((⟨#[104, 116, 116, 112, 58, 47, 47]⟩ : ByteArray) ++ z).size ≤ 300 := by rw [ByteArray.size_append]; show 7 + z.size ≤ 300; omega
        rw [if_neg (show ¬ (false = true) by decide), if_pos (by omega), if_pos (by omega)]; rfl
    · rw [if_neg h0, if_neg h0]
  have J3 : ∀ b : Bool, (b = true ↔ x.f4 ≠ 0 ∧ x.f4 ≠ plainA tls) → tollref07_Away.j3 (k + 2) tls (hostA x h) b pk pv m h p q hd x.f0 x.f1 x.f2 x.f3 x.f4 x.f5 x.f6 x.f7 = some (awayF tls x pk pv h p) := by
    intro b hbb
    unfold awayF addrA
    rw [tollref07_Away.j3]
    cases b with
    | true =>
      have hc := hbb.1 rfl
      have hi1 : (⟨(Go.Lib.itoa x.f4).toArray⟩ : ByteArray).size ≤ 21 := by rw [size_os]; exact hit
      have hc2 : ((⟨#[58]⟩ : ByteArray) ++ (⟨(Go.Lib.itoa x.f4).toArray⟩ : ByteArray)).size ≤ 30 := by rw [ByteArray.size_append]; show 1 + _ ≤ 30; omega
      have hc3 : (hostA x h ++ ((⟨#[58]⟩ : ByteArray) ++ (⟨(Go.Lib.itoa x.f4).toArray⟩ : ByteArray))).size ≤ 200 := by rw [ByteArray.size_append]; omega
      rw [if_pos rfl, if_pos hc, digits_p x.f4 (by omega) g2 _ (by omega), Option.bind_some, if_pos (by omega), if_pos (by omega), J4 _ hc3, show begA tls ++ (hostA x h ++ ((⟨#[58]⟩ : ByteArray) ++ (⟨(Go.Lib.itoa x.f4).toArray⟩ : ByteArray))) = begA tls ++ hostA x h ++ ((⟨#[58]⟩ : ByteArray) ++ (⟨(Go.Lib.itoa x.f4).toArray⟩ : ByteArray)) from ByteArray.append_assoc.symm]
    | false =>
      have hn : ¬ (x.f4 ≠ 0 ∧ x.f4 ≠ plainA tls) := fun hc => by have := hbb.2 hc; cases this
      rw [if_neg (show ¬ (false = true) by decide), if_neg hn, J4 _ (by omega)]
  rw [tollref07_Away.j2]
  by_cases h0 : x.f4 = 0
  · rw [if_pos h0]; exact J3 false ⟨fun h => (by cases h), fun h => absurd h0 h.1⟩
  rw [if_neg h0]
  cases tls with
  | true =>
    by_cases h8 : x.f4 = 80
    · rw [if_pos h8, if_pos rfl, if_neg (by omega)]; exact J3 _ ⟨fun _ => ⟨h0, by unfold plainA; rw [if_pos rfl]; omega⟩, fun _ => rfl⟩
    · rw [if_neg h8]
      by_cases h44 : x.f4 = 443
      · rw [if_pos h44]; exact J3 _ ⟨fun h => (by cases h), fun h => absurd h44 h.2⟩
      · rw [if_neg h44]; exact J3 _ ⟨fun _ => ⟨h0, h44⟩, fun _ => rfl⟩
  | false =>
    by_cases h8 : x.f4 = 80
    · rw [if_pos h8, if_neg (show ¬ (false = true) by decide)]; exact J3 _ ⟨fun h => (by cases h), fun h => absurd h8 h.2⟩
    · rw [if_neg h8]
      by_cases h44 : x.f4 = 443
      · rw [if_pos h44]; exact J3 _ ⟨fun _ => ⟨h0, by unfold plainA; rw [if_neg (by decide)]; omega⟩, fun _ => rfl⟩
      · rw [if_neg h44]; exact J3 _ ⟨fun _ => ⟨h0, h8⟩, fun _ => rfl⟩
theorem awayR_p (L : List FT) (hL : ∀ f ∈ L, SF f) (hl9 : L.length ≤ 9) (pk : Int) (pv m h p : ByteArray) (q hd : List PT) (tls : Bool) (hv : (os pv).length ≤ 100) (hh : (os h).length ≤ 100) (hp : (os p).length ≤ 100) (k : Nat) (hk : 66000 ≤ k) :
    tollref07_Away.f k L pk pv m h p q hd tls = some (awayP L pk pv h p tls) := by
  obtain ⟨k, rfl⟩ : ∃ z, k = z + 1 := ⟨k - 1, by omega⟩
  have z1 := size_os pv
  have z2 := size_os p
  unfold tollref07_Away.f awayP
  rw [all_r' L _ (by omega) hl9 hL, Option.bind_some]
  cases ha : allF L with
  | false => rw [if_neg (show ¬ (false = true) by decide), if_neg (show ¬ (false = true) by decide), tollref07_Away.j0, if_pos rfl]
  | true =>
    rw [if_pos rfl, if_pos rfl, ref_holds _ _ _ _ (by omega) (by omega) (by omega), Option.bind_some, tollref07_Away.j0]
    cases holdsP pk (os pv) (os p) with
    | false => rw [if_pos (by decide), if_neg (by decide)]
    | true =>
      rw [if_neg (by decide), if_pos rfl]
      rcases idxI_two (fun x : FT => decide (x.f0 = 4)) L with ⟨e, hno⟩ | ⟨i, hi, e, h4, hbef⟩
      · rw [e, if_pos (by decide)]
        have lp : ∀ (c j k : Nat), L.length - j = c → j ≤ L.length → c + 2 ≤ k → tollref07_Away.l0 k L tls (j : Int) pk pv m h p q hd = some (0, (⟨#[]⟩ : ByteArray), 3) := by
          intro c
          induction c with
          | zero =>
            intro j k h1 h2 h3
            obtain ⟨k, rfl⟩ : ∃ z, k = z + 1 := ⟨k - 1, by omega⟩
            rw [tollref07_Away.l0, if_neg (by omega)]
          | succ c ih =>
            intro j k h1 h2 h3
            obtain ⟨k, rfl⟩ : ∃ z, k = z + 1 := ⟨k - 1, by omega⟩
            have hj : j < L.length := by omega
            have hk4 := of_decide_eq_false (hno _ (List.getElem_mem hj))
            rw [tollref07_Away.l0, if_pos (by omega), if_pos (by omega), rdF L j hj, if_neg hk4, wrapF (by omega), ih (j + 1) k (by omega) (by omega) (by omega)]
        exact lp L.length 0 k rfl (Nat.zero_le _) (by omega)
      · have hi0 : ¬ ((i : Int) < 0) := by omega
        rw [e, if_neg hi0, rdF L i hi]
        have hf := hL _ (List.getElem_mem hi)
        have hmf := allF_may ha _ (List.getElem_mem hi)
        have h4' := of_decide_eq_true h4
        have lp : ∀ (c j k : Nat), i - j = c → j ≤ i → c + 65702 ≤ k → tollref07_Away.l0 k L tls (j : Int) pk pv m h p q hd = some (awayF tls (L[i]'hi) pk pv h p) := by
          intro c
          induction c with
          | zero =>
            intro j k h1 h2 h3
            obtain ⟨k, rfl⟩ : ∃ z, k = z + 1 := ⟨k - 1, by omega⟩
            obtain rfl : j = i := by omega
            have J := awayR_j2 (L[j]'hi) hf hmf h4' tls pk pv m h p q hd hv hh hp k (by omega)
            unfold hostA at J
            rw [tollref07_Away.l0, if_pos (by omega), if_pos (by omega), rdF L j hi, if_pos h4', toList_os]
            by_cases e3 : os (L[j]'hi).f3 = []
            · rw [if_pos e3] at J ⊢; exact J
            · rw [if_neg e3] at J ⊢; exact J
          | succ c ih =>
            intro j k h1 h2 h3
            obtain ⟨k, rfl⟩ : ∃ z, k = z + 1 := ⟨k - 1, by omega⟩
            have hj : j < L.length := by omega
            have hk4 := of_decide_eq_false (hbef j (by omega))
            rw [tollref07_Away.l0, if_pos (by omega), if_pos (by omega), rdF L j hj, if_neg hk4, wrapF (by omega), ih (j + 1) k (by omega) (by omega) (by omega)]
        exact lp i 0 k rfl (Nat.zero_le _) (by omega)
end Go.Proofs.YtfdopmjgiakcdaaGreatDoor.L
