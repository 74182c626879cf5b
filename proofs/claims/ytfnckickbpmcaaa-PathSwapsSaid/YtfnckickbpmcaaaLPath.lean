/- What the functions of package path, and the reference's, answer, as plain functions on lists of octets; for texts of at most 1000 octets. -/
import Derived.Test.YtfnckickbpmcaaaPx0
import Derived.Test.YtfnckickbpmcaaaPx2
import Derived.Test.YtfnckickbpmcaaaPx3
import Derived.Test.YtfnckickbpmcaaaPx4
import Derived.Test.YtfnckickbpmcaaaPx6
import Derived.Test.YtfnckickbpmcaaaLBytes
namespace Go.Proofs.Ytfnckickbpmcaaa.L
open Go Go.RowKit Go.Proofs.Ytfnckickbpmcaaa.P Go.Proofs.YtfnckickbpmcaaaW.PrintWords Go.Proofs.YtfnckickbpmcaaaW.PrintLast

theorem few_one (s : ByteArray) : ∃ t, tolllaw01_Few.f s = some t ∧ (os t).length ≤ 100 := by
  unfold tolllaw01_Few.f
  have hs := size_os s
  by_cases h : (s.size : Int) > 100
  · rw [if_pos h, if_pos (by decide), if_pos (by omega)]
    refine ⟨_, rfl, ?_⟩
    rw [os_extract, List.length_take]
    omega
  · rw [if_neg h]
    exact ⟨s, rfl, by omega⟩
theorem few_path (k : Int) (s : ByteArray) : ∃ t, tolllaw03_Few.f k s = some (k, t) ∧ (os t).length ≤ 100 := by
  obtain ⟨t, h, hl⟩ := few_one s
  exact ⟨t, by unfold tolllaw03_Few.f; rw [h]; rfl, hl⟩

/-- May an octet stand in a path? -/
def pok (c : UInt8) : Bool := decide (33 ≤ c.toNat) && (decide (c.toNat ≤ 126) && (c.toNat != 63 && c.toNat != 35))
/-- Is a text a path? -/
def isPath (l : List UInt8) : Bool := l.all pok && (l.head? == some 47 && decide (l.length ≤ 60))
/-- May it be a Prefix's? -/
def above (l : List UInt8) : Bool := isPath l && (l == [47] || l.getLast? != some 47)
def mayP (k : Int) (l : List UInt8) : Bool := (k == 1 && isPath l) || (k == 2 && above l)
def holdsP (k : Int) (p s : List UInt8) : Bool := mayP k p && isPath s && (p == s || (k == 2 && (p == [47] || (p ++ [47]).isPrefixOf s)))

theorem isPath_len {l : List UInt8} (h : isPath l = true) : 1 ≤ l.length ∧ l.length ≤ 60 := by
  unfold isPath at h
  simp only [Bool.and_eq_true, decide_eq_true_eq, beq_iff_eq] at h
  refine ⟨?_, h.2.2⟩
  cases l with
  | nil => simp at h
  | cons a r => simp
theorem isPath_head {l : List UInt8} (h : isPath l = true) : ∃ r, l = 47 :: r := by
  unfold isPath at h
  simp only [Bool.and_eq_true, decide_eq_true_eq, beq_iff_eq] at h
  cases l with
  | nil => simp at h
  | cons a r =>
    have := h.2.1
    simp at this
    exact ⟨r, by rw [this]⟩

theorem hasPrefix (s p : ByteArray) : strings_HasPrefix.f s p = some ((os p).isPrefixOf (os s)) := by
  have hs := size_os s
  have hp := size_os p
  unfold strings_HasPrefix.f stringslite_HasPrefix.f
  by_cases h : (s.size : Int) ≥ (p.size : Int)
  · rw [if_pos h, if_pos (by omega), if_pos (by omega), Option.bind_some]
    congr 1
    rw [toList_os, toList_os, os_extract, List.drop_zero, Nat.sub_zero, hp, Bool.eq_iff_iff, beq_iff_eq, List.isPrefixOf_iff_prefix]
    constructor
    · intro h
      rw [← h]
      exact List.take_prefix _ _
    · intro h
      exact (List.prefix_iff_eq_take.1 h).symm
  · rw [if_neg h, Option.bind_some]
    congr 1
    symm
    rw [Bool.eq_false_iff]
    intro hc
    have := (List.isPrefixOf_iff_prefix.1 hc).length_le
    omega
theorem hasSuffix (s p : ByteArray) (hl : s.size ≤ 9223372036854775807) : strings_HasSuffix.f s p = some ((os p).isSuffixOf (os s)) := by
  have hs := size_os s
  have hp := size_os p
  unfold strings_HasSuffix.f stringslite_HasSuffix.f
  by_cases h : (s.size : Int) ≥ (p.size : Int)
  · have hw : wrap64 ((s.size : Int) - (p.size : Int)) = ((s.size - p.size : Nat) : Int) := by rw [wrap64_id (by omega) (by omega)]; omega
    rw [if_pos h, hw, if_pos (by omega), if_pos (by omega), Option.bind_some]
    congr 1
    rw [toList_os, toList_os, os_extract, Int.toNat_natCast, Bool.eq_iff_iff, beq_iff_eq, List.isSuffixOf_iff_suffix, List.take_of_length_le (by simp)]
    rw [List.suffix_iff_eq_drop, ← hs, ← hp]
    exact eq_comm
  · rw [if_neg h, Option.bind_some]
    congr 1
    symm
    rw [Bool.eq_false_iff]
    intro hc
    have := (List.isSuffixOf_iff_suffix.1 hc).length_le
    omega

theorem path_is (s : ByteArray) : path_Is.f s = some (isPath (os s)) := by
  have hs := size_os s
  unfold path_Is.f isPath
  by_cases h : (os s).all path_Is.ok = true
  · rw [if_pos h, hasPrefix, Option.bind_some]
    have h2 : (os s).all pok = true := h
    rw [h2]
    have h3 : (os (⟨#[47]⟩ : ByteArray)).isPrefixOf (os s) = ((os s).head? == some 47) := by
      show [47].isPrefixOf (os s) = _
      cases os s with
      | nil => rfl
      | cons a r =>
        show (47 == a && true) = (some a == some 47)
        by_cases ha : a = 47
        · rw [ha]; rfl
        · rw [Bool.and_true, beq_eq_false_iff_ne.2 (Ne.symm ha), beq_eq_false_iff_ne.2 (fun h => ha (Option.some.inj h))]
    rw [h3]
    cases (os s).head? == some 47
    · rfl
    · rw [if_pos rfl, Bool.true_and, Bool.true_and]
      congr 1
      exact decide_eq_decide.2 (by omega)
  · rw [if_neg h]
    have h2 : (os s).all pok = false := by rw [Bool.eq_false_iff]; exact h
    rw [h2]
    rfl

theorem ref_is_loop (s : ByteArray) (hl : s.size ≤ 1000) : ∀ (d k i : Nat), i + d = s.size → d < k → tollref03_Is.l0 k s (i : Int) = some (((os s).drop i).all pok) := by
  have hs := size_os s
  intro d
  induction d with
  | zero =>
    intro k i hi hk
    obtain ⟨k, rfl⟩ : ∃ m, k = m + 1 := ⟨k - 1, by omega⟩
    simp only [tollref03_Is.l0]
    rw [if_neg (by omega), List.drop_eq_nil_of_le (by omega)]
    rfl
  | succ d ih =>
    intro k i hi hk
    obtain ⟨k, rfl⟩ : ∃ m, k = m + 1 := ⟨k - 1, by omega⟩
    have hil : i < (os s).length := by omega
    simp only [tollref03_Is.l0]
    rw [if_pos (by omega), if_pos (by omega), bt_os, List.getElem?_eq_getElem hil, Option.getD_some, List.drop_eq_getElem_cons hil, List.all_cons]
    have hn := ((os s)[i]'hil).toNat_lt
    have hw : wrap64 ((i : Int) + 1) = ((i + 1 : Nat) : Int) := by rw [wrap64_id (by omega) (by omega)]; omega
    rw [hw, ih k (i + 1) (by omega) (by omega)]
    generalize ((os s)[i]'hil) = c at hn
    generalize ((os s).drop (i + 1)).all pok = b
    unfold pok
    by_cases h1 : c.toNat < 33
    · rw [if_pos (by omega), show decide (33 ≤ c.toNat) = false from by simp; omega]; rfl
    rw [if_neg (by omega), show decide (33 ≤ c.toNat) = true from by simp; omega]
    by_cases h2 : 126 < c.toNat
    · rw [if_pos (by omega), show decide (c.toNat ≤ 126) = false from by simp; omega]; rfl
    rw [if_neg (by omega), show decide (c.toNat ≤ 126) = true from by simp; omega]
    by_cases h3 : c.toNat = 63
    · rw [if_pos (by omega), h3]; rfl
    rw [if_neg (by omega), show (c.toNat != 63) = true from by simpa using h3]
    by_cases h4 : c.toNat = 35
    · rw [if_pos (by omega), h4]; rfl
    rw [if_neg (by omega), show (c.toNat != 35) = true from by simpa using h4]
    rfl
theorem ref_is (s : ByteArray) (k : Nat) (hk : s.size + 3 ≤ k) (hl : s.size ≤ 1000) : tollref03_Is.f k s = some (isPath (os s)) := by
  have hs := size_os s
  obtain ⟨k, rfl⟩ : ∃ m, k = m + 1 := ⟨k - 1, by omega⟩
  unfold tollref03_Is.f isPath
  by_cases h1 : (s.size : Int) < 1
  · rw [if_pos h1]
    simp only [tollref03_Is.j0]
    rw [if_pos trivial]
    have : os s = [] := List.eq_nil_of_length_eq_zero (by omega)
    rw [this]
    rfl
  rw [if_neg h1]
  by_cases h2 : (s.size : Int) > 60
  · rw [if_pos h2]
    simp only [tollref03_Is.j0]
    rw [if_pos trivial, decide_eq_false (show ¬ (os s).length ≤ 60 by omega), Bool.and_false, Bool.and_false]
  rw [if_neg h2, if_pos (by omega), decide_eq_true (show (os s).length ≤ 60 by omega), Bool.and_true]
  simp only [tollref03_Is.j0]
  have hb := bt_os s 0
  obtain ⟨c, r, hc⟩ : ∃ c r, os s = c :: r := by
    cases h : os s with
    | nil => rw [h, List.length_nil] at hs; omega
    | cons c r => exact ⟨c, r, rfl⟩
  have hb2 : bt s 0 = (c.toNat : Int) := by
    have : bt s 0 = bt s ((0 : Nat) : Int) := rfl
    rw [this, hb, hc]; rfl
  rw [hb2]
  by_cases h3 : c = 47
  · have : ((c.toNat : Int) != 47) = false := by rw [h3]; rfl
    rw [this, if_neg (by simp)]
    have hlp := ref_is_loop s hl s.size k 0 (by omega) (by omega)
    rw [List.drop_zero] at hlp
    have hz : tollref03_Is.l0 k s 0 = tollref03_Is.l0 k s ((0 : Nat) : Int) := rfl
    rw [hz, hlp, hc, h3]
    simp
  · have hne : ((c.toNat : Int) != 47) = true := by
      rw [bne_iff_ne]
      intro h
      apply h3
      apply UInt8.toNat_inj.1
      show c.toNat = 47
      omega
    rw [hne, if_pos rfl, hc]
    simp [h3]

theorem path_above_f (s : ByteArray) (hl : s.size ≤ 1000) : path_above.f s = some (above (os s)) := by
  unfold path_above.f above
  rw [path_is, Option.bind_some]
  cases h : isPath (os s)
  · rw [if_neg (by simp)]; rfl
  · rw [if_pos rfl, toList_os]
    by_cases h2 : os s = [47]
    · rw [if_pos h2, h2]; rfl
    · rw [if_neg h2, hasSuffix _ _ (by omega), Option.bind_some]
      have : (os s == [47]) = false := by simpa using h2
      rw [this, Bool.true_and, Bool.false_or]
      congr 1
      show (![47].isSuffixOf (os s)) = (!((os s).getLast? == some 47))
      congr 1
      rw [Bool.eq_iff_iff, List.isSuffixOf_iff_suffix, beq_iff_eq]
      constructor
      · rintro ⟨t, ht⟩
        rw [← ht]; simp
      · intro hg
        exact ⟨(os s).dropLast, by
          obtain ⟨l, hl⟩ := List.getLast?_eq_some_iff.1 hg
          rw [hl]; simp⟩
theorem ref_above (s : ByteArray) (k : Nat) (hk : s.size + 3 ≤ k) (hl : s.size ≤ 1000) : tollref03_Above.f k s = some (above (os s)) := by
  have hs := size_os s
  unfold tollref03_Above.f above
  rw [ref_is s k hk hl, Option.bind_some]
  cases h : isPath (os s)
  · rw [if_neg (by simp)]; rfl
  · rw [if_pos rfl]
    obtain ⟨r, hr⟩ := isPath_head h
    by_cases h1 : (s.size : Int) = 1
    · rw [if_pos h1]
      have : r = [] := List.eq_nil_of_length_eq_zero (by rw [hr] at hs; simp at hs; omega)
      rw [hr, this]; rfl
    · have hw : wrap64 ((s.size : Int) - 1) = ((s.size - 1 : Nat) : Int) := by
        have := isPath_len h
        rw [wrap64_id (by omega) (by omega)]; omega
      have hlen := isPath_len h
      rw [if_neg h1, hw, if_pos (by omega), if_pos (by omega), bt_os]
      have hne : (os s == [47]) = false := by
        rw [beq_eq_false_iff_ne]
        intro hc
        rw [hc] at hs
        simp at hs; omega
      rw [hne, Bool.true_and, Bool.false_or, hs, ← List.getLast?_eq_getElem?]
      congr 1
      cases hg : (os s).getLast? with
      | none => rw [List.getLast?_eq_none_iff] at hg; rw [hg] at hlen; simp at hlen
      | some c =>
        rw [Option.getD_some]
        show (!((c.toNat : Int) == 47)) = (!(some c == some 47))
        congr 1
        rw [Bool.eq_iff_iff, beq_iff_eq, beq_iff_eq]
        constructor
        · intro h; congr 1; apply UInt8.toNat_inj.1; show c.toNat = 47; omega
        · intro h; injection h with h; rw [h]; rfl

theorem path_may (k : Int) (s : ByteArray) (hl : s.size ≤ 1000) : path_May.f k s = some (mayP k (os s)) := by
  unfold path_May.f mayP
  rw [path_is, path_above_f s hl]
  by_cases h1 : k = 1
  · subst h1
    cases isPath (os s) <;> rfl
  · rw [if_neg h1, beq_eq_false_iff_ne.2 h1]
    by_cases h2 : k = 2
    · subst h2; rfl
    · rw [if_neg h2, beq_eq_false_iff_ne.2 h2]; rfl
theorem ref_may (k : Int) (s : ByteArray) (n : Nat) (hn : s.size + 3 ≤ n) (hl : s.size ≤ 1000) : tollref03_May.f n k s = some (mayP k (os s)) := by
  unfold tollref03_May.f mayP
  rw [ref_is s n hn hl, ref_above s n hn hl]
  by_cases h1 : k = 1
  · subst h1
    cases isPath (os s) <;> rfl
  · rw [if_neg h1, beq_eq_false_iff_ne.2 h1]
    by_cases h2 : k = 2
    · subst h2; rfl
    · rw [if_neg h2, beq_eq_false_iff_ne.2 h2]; rfl
theorem mayP_kind {k : Int} {l : List UInt8} (h : mayP k l = true) : isPath l = true ∧ (k = 1 ∨ k = 2 ∧ above l = true) := by
  unfold mayP at h
  simp only [Bool.or_eq_true, Bool.and_eq_true, beq_iff_eq] at h
  rcases h with ⟨h1, h2⟩ | ⟨h1, h2⟩
  · exact ⟨h2, .inl h1⟩
  · refine ⟨?_, .inr ⟨h1, h2⟩⟩
    unfold above at h2
    simp only [Bool.and_eq_true] at h2
    exact h2.1
theorem path_holds (k : Int) (p s : ByteArray) (n : Nat) (hn : 1 ≤ n) (hp : p.size ≤ 1000) : path_Holds.f n k p s = some (holdsP k (os p) (os s)) := by
  have hps := size_os p
  unfold path_Holds.f holdsP
  obtain ⟨n, rfl⟩ : ∃ m, n = m + 1 := ⟨n - 1, by omega⟩
  rw [path_may k p hp, Option.bind_some, path_is, Option.bind_some]
  simp only [path_Holds.j0]
  cases h1 : mayP k (os p)
  · rw [if_neg (by simp), if_pos trivial]; rfl
  rw [if_pos rfl]
  cases h2 : isPath (os s)
  · rfl
  show (if false = true then _ else _) = _
  rw [if_neg (by simp), toList_os, toList_os]
  by_cases h3 : os p = os s
  · rw [if_pos h3, h3]; simp
  rw [if_neg h3, beq_eq_false_iff_ne.2 h3]
  by_cases h4 : k = 2
  · subst h4
    rw [if_pos rfl]
    by_cases h5 : os p = [47]
    · rw [if_pos h5, h5]; rfl
    · rw [if_neg h5, if_pos (by omega), hasPrefix, Option.bind_some, os_append, beq_eq_false_iff_ne.2 h5]
      rfl
  · rw [if_neg h4, beq_eq_false_iff_ne.2 h4]; rfl
theorem prefix_slash (p s : List UInt8) : (p ++ [47]).isPrefixOf s = (decide (p.length < s.length) && (s.take p.length == p && s[p.length]?.getD 0 == 47)) := by
  rw [Bool.eq_iff_iff, List.isPrefixOf_iff_prefix]
  simp only [Bool.and_eq_true, decide_eq_true_eq, beq_iff_eq]
  constructor
  · rintro ⟨t, rfl⟩
    simp
  · rintro ⟨h1, h2, h3⟩
    rw [List.getElem?_eq_getElem h1, Option.getD_some] at h3
    refine ⟨s.drop (p.length + 1), ?_⟩
    rw [List.append_assoc]
    conv => rhs; rw [← List.take_append_drop p.length s, List.drop_eq_getElem_cons h1, h2, h3]
    rfl
theorem ref_holds (k : Int) (p s : ByteArray) (n : Nat) (hn : p.size + s.size + 4 ≤ n) (hp : p.size ≤ 1000) (hs1 : s.size ≤ 1000) : tollref03_Holds.f n k p s = some (holdsP k (os p) (os s)) := by
  have hps := size_os p
  have hss := size_os s
  unfold tollref03_Holds.f holdsP
  rw [ref_may k p n (by omega) hp, Option.bind_some, ref_is s n (by omega) hs1, Option.bind_some]
  obtain ⟨n, rfl⟩ : ∃ m, n = m + 1 := ⟨n - 1, by omega⟩
  simp only [tollref03_Holds.j0]
  cases h1 : mayP k (os p)
  · rw [if_neg (by simp), if_pos trivial]; rfl
  rw [if_pos rfl]
  cases h2 : isPath (os s)
  · rfl
  show (if false = true then _ else _) = _
  rw [if_neg (by simp), toList_os, toList_os]
  obtain ⟨hip, hk⟩ := mayP_kind h1
  have hlen := isPath_len hip
  by_cases h3 : os p = os s
  · rw [if_pos h3, h3]; simp
  rw [if_neg h3, beq_eq_false_iff_ne.2 h3]
  by_cases h4 : k = 1
  · subst h4; rfl
  rw [if_neg h4]
  obtain ⟨rfl, hab⟩ : k = 2 ∧ above (os p) = true := by
    rcases hk with hk | hk
    · exact absurd hk h4
    · exact hk
  by_cases h5 : (p.size : Int) = 1
  · rw [if_pos h5]
    obtain ⟨r, hr⟩ := isPath_head hip
    have : r = [] := List.eq_nil_of_length_eq_zero (by rw [hr, List.length_cons] at hps; omega)
    rw [hr, this]; rfl
  rw [if_neg h5]
  have h6 : (os p == [47]) = false := by
    rw [beq_eq_false_iff_ne]
    intro hc
    rw [hc, List.length_singleton] at hps
    omega
  rw [h6, prefix_slash]
  by_cases h7 : (s.size : Int) > (p.size : Int)
  · rw [if_pos h7, if_pos (by omega), if_pos (by omega), toList_os, os_extract, bt_os, decide_eq_true (show (os p).length < (os s).length by omega), List.drop_zero, Nat.sub_zero, hps]
    by_cases h8 : (os s).take (os p).length = os p
    · rw [if_pos h8, if_pos (by omega), h8]
      simp only [Bool.true_and, beq_self_eq_true, Bool.false_or]
      congr 1
      generalize (os s)[(os p).length]?.getD 0 = c
      rw [Bool.eq_iff_iff, beq_iff_eq, beq_iff_eq]
      constructor
      · intro h; apply UInt8.toNat_inj.1; show c.toNat = 47; omega
      · intro h; rw [h]; rfl
    · rw [if_neg h8, beq_eq_false_iff_ne.2 h8]; rfl
  · rw [if_neg h7, decide_eq_false (show ¬ (os p).length < (os s).length by omega)]; rfl

/-- What stands behind. -/
def tailP (p s : List UInt8) : List UInt8 := if p = [47] then (if s = [47] then [] else s) else s.drop p.length
/-- A path with another beginning, and the error's number. -/
def swapP (k : Int) (p w s : List UInt8) : List UInt8 × Int :=
  if k = 2 ∧ holdsP k p s = true ∧ above w = true then
    (if w = [47] then (if tailP p s = [] then ([47], 0) else (tailP p s, 0)) else if w.length + (tailP p s).length > 60 then ([], 5) else (w ++ tailP p s, 0))
  else ([], 1)
theorem above_path {l : List UInt8} (h : above l = true) : isPath l = true := by
  unfold above at h
  simp only [Bool.and_eq_true] at h
  exact h.1
theorem holdsP_cases {k : Int} {p s : List UInt8} (h : holdsP k p s = true) : mayP k p = true ∧ isPath s = true ∧ (p = s ∨ k = 2 ∧ (p = [47] ∨ p ++ [47] <+: s)) := by
  unfold holdsP at h
  simp only [Bool.or_eq_true, Bool.and_eq_true, beq_iff_eq, List.isPrefixOf_iff_prefix] at h
  exact ⟨h.1.1, h.1.2, h.2⟩
theorem holdsP_prefix {k : Int} {p s : List UInt8} (h : holdsP k p s = true) : p <+: s := by
  obtain ⟨_, h2, h3⟩ := holdsP_cases h
  rcases h3 with rfl | ⟨_, rfl | h3⟩
  · exact List.prefix_refl _
  · obtain ⟨r, rfl⟩ := isPath_head h2
    exact ⟨r, rfl⟩
  · exact (List.prefix_append _ _).trans h3
theorem swapP_err {k : Int} {p w s : List UInt8} (h : (swapP k p w s).2 ≠ 0) : (swapP k p w s).1 = [] := by
  unfold swapP at h ⊢
  split at h <;> rename_i h1
  · rw [if_pos h1]
    split at h <;> rename_i h2
    · split at h <;> exact absurd rfl h
    · rw [if_neg h2]
      split at h <;> rename_i h3
      · rw [if_pos h3]
      · exact absurd rfl h
  · rw [if_neg h1]

theorem path_tail_f (k : Int) (p s : ByteArray) (h : os p <+: os s) : ∃ t, path_tail.f k p s = some t ∧ os t = tailP (os p) (os s) := by
  have hps := size_os p
  have hss := size_os s
  have hl := h.length_le
  unfold path_tail.f tailP
  rw [toList_os, toList_os]
  by_cases h1 : os p = [47]
  · rw [if_pos h1, if_pos h1]
    by_cases h2 : os s = [47]
    · rw [if_pos h2, if_pos h2]; exact ⟨_, rfl, rfl⟩
    · rw [if_neg h2, if_neg h2]; exact ⟨_, rfl, rfl⟩
  · rw [if_neg h1, if_neg h1, if_pos (by omega), if_pos (by omega)]
    refine ⟨_, rfl, ?_⟩
    rw [os_extract, hps, List.take_of_length_le (by rw [List.length_drop]; omega)]
theorem path_swap (k : Int) (p w s : ByteArray) (n : Nat) (hn : 3 ≤ n) (hp : p.size ≤ 1000) (hw : w.size ≤ 1000) (hs1 : s.size ≤ 1000) :
    ∃ t e, path_Swap.f n k p w s = some (t, e) ∧ (os t, e) = swapP k (os p) (os w) (os s) := by
  have hws := size_os w
  obtain ⟨n, rfl⟩ : ∃ m, n = m + 2 := ⟨n - 2, by omega⟩
  unfold path_Swap.f swapP
  by_cases h1 : k = 2
  · subst h1
    rw [if_pos rfl, path_holds 2 p s (n + 2) (by omega) hp, Option.bind_some, path_above_f w hw, Option.bind_some]
    simp only [path_Swap.j0]
    cases h2 : holdsP 2 (os p) (os s)
    · rw [if_neg (by simp), if_pos trivial, if_neg (by simp)]; exact ⟨_, _, rfl, rfl⟩
    rw [if_pos rfl]
    cases h3 : above (os w)
    · rw [if_pos (by rfl), if_neg (by simp)]; exact ⟨_, _, rfl, rfl⟩
    rw [if_neg (show ¬ ((!true) = true) by decide), if_pos (show True ∧ true = true ∧ true = true from ⟨trivial, rfl, rfl⟩)]
    obtain ⟨t, ht, hto⟩ := path_tail_f 2 p s (holdsP_prefix h2)
    have hts := size_os t
    rw [ht, Option.bind_some, toList_os, toList_os, ← hto]
    simp only [path_Swap.j1, toList_os]
    by_cases h4 : os w = [47]
    · simp only [if_pos h4]
      by_cases h5 : os t = []
      · rw [if_pos h5, h5, if_pos (by rfl)]; exact ⟨_, _, rfl, rfl⟩
      · rw [if_neg h5, if_neg (by simpa using h5)]; exact ⟨_, _, rfl, rfl⟩
    · simp only [if_neg h4]
      rw [if_neg (by simp)]
      have htl : (os t).length ≤ 1000 := by
        rw [hto]
        unfold tailP
        have hss := size_os s
        split
        · split
          · simp
          · omega
        · rw [List.length_drop]; omega
      rw [wrap64_id (by omega) (by omega)]
      by_cases h6 : (os w).length + (os t).length > 60
      · rw [if_pos (by omega), if_pos h6]; exact ⟨_, _, rfl, rfl⟩
      · rw [if_neg (by omega), if_neg h6, if_pos (by omega)]
        exact ⟨_, _, rfl, by rw [os_append]⟩
  · rw [if_neg h1, if_neg (fun h => h1 h.1)]
    simp only [path_Swap.j0]
    rw [if_pos trivial]
    exact ⟨_, _, rfl, rfl⟩
theorem ref_swap (k : Int) (p w s : ByteArray) (n : Nat) (hn : p.size + w.size + s.size + 9 ≤ n) (hp : p.size ≤ 1000) (hw : w.size ≤ 1000) (hs1 : s.size ≤ 1000) :
    ∃ t e, tollref03_Swap.f n k p w s = some (t, e) ∧ (os t, e) = swapP k (os p) (os w) (os s) := by
  have hws := size_os w
  have hps := size_os p
  have hss := size_os s
  obtain ⟨n, rfl⟩ : ∃ m, n = m + 3 := ⟨n - 3, by omega⟩
  unfold tollref03_Swap.f swapP
  by_cases h1 : k = 2
  · subst h1
    rw [if_pos rfl, ref_holds 2 p s (n + 3) (by omega) hp hs1, Option.bind_some, ref_above w (n + 3) (by omega) hw, Option.bind_some]
    simp only [tollref03_Swap.j0]
    cases h2 : holdsP 2 (os p) (os s)
    · rw [if_neg (by simp), if_pos trivial, if_neg (by simp)]; exact ⟨_, _, rfl, rfl⟩
    rw [if_pos rfl]
    cases h3 : above (os w)
    · rw [if_pos (by rfl), if_neg (by simp)]; exact ⟨_, _, rfl, rfl⟩
    rw [if_neg (show ¬ ((!true) = true) by decide), if_pos (show True ∧ true = true ∧ true = true from ⟨trivial, rfl, rfl⟩)]
    obtain ⟨hm, hip, hpc⟩ := holdsP_cases h2
    obtain ⟨hpp, _⟩ := mayP_kind hm
    have hpl := isPath_len hpp
    have hsl := isPath_len hip
    have hwl := isPath_len (above_path h3)
    have hpre := (holdsP_prefix h2).length_le
    have one : ∀ l : List UInt8, isPath l = true → (l = [47] ↔ l.length = 1) := by
      intro l hl
      obtain ⟨r, rfl⟩ := isPath_head hl
      constructor
      · intro h; rw [h]; rfl
      · intro h
        have : r = [] := List.eq_nil_of_length_eq_zero (by rw [List.length_cons] at h; omega)
        rw [this]
    -- behind the tail
    have hj : ∀ t : ByteArray, os t = tailP (os p) (os s) → ∃ u e, tollref03_Swap.j1 (n + 2) w t = some (u, e) ∧ (os u, e) = (if os w = [47] then (if tailP (os p) (os s) = [] then ([47], 0) else (tailP (os p) (os s), 0)) else if (os w).length + (tailP (os p) (os s)).length > 60 then ([], 5) else (os w ++ tailP (os p) (os s), 0)) := by
      intro t ht
      have hts := size_os t
      rw [← ht]
      have htl : (os t).length ≤ 60 := by
        rw [ht]
        unfold tailP
        split
        · split
          · simp
          · omega
        · rw [List.length_drop]; omega
      simp only [tollref03_Swap.j1, tollref03_Swap.j2, toList_os]
      by_cases h4 : os w = [47]
      · have hw1 : (os w).length = 1 := by rw [h4]; rfl
        rw [if_pos h4, if_neg (by omega)]
        by_cases h5 : os t = []
        · rw [if_pos h5, if_pos h5, if_neg (by omega)]; exact ⟨_, _, rfl, by rw [h4]⟩
        · rw [if_neg h5, if_neg h5, if_neg (by omega)]; exact ⟨_, _, rfl, rfl⟩
      · have hw1 : (os w).length ≠ 1 := fun h => h4 ((one _ (above_path h3)).2 h)
        rw [if_neg h4, if_pos (by omega), if_pos (by omega)]
        have hal : (os (w ++ t)).length = (os w).length + (os t).length := by rw [os_append, List.length_append]
        have has := size_os (w ++ t)
        have hne : os (w ++ t) ≠ [] := by intro h; rw [h, List.length_nil] at hal; omega
        rw [if_neg hne]
        by_cases h6 : (os w).length + (os t).length > 60
        · rw [if_pos (by omega), if_pos h6]; exact ⟨_, _, rfl, rfl⟩
        · rw [if_neg (by omega), if_neg h6]; exact ⟨_, _, rfl, by rw [os_append]⟩
    by_cases h7 : (p.size : Int) > 1
    · rw [if_pos h7, if_pos (by omega), if_pos (by omega)]
      refine hj _ ?_
      have h8 : os p ≠ [47] := fun h => by have := (one _ hpp).1 h; omega
      rw [os_extract, hps, List.take_of_length_le (by rw [List.length_drop]; omega)]
      unfold tailP
      rw [if_neg h8]
    · have h8 : os p = [47] := (one _ hpp).2 (by omega)
      rw [if_neg h7]
      by_cases h9 : (s.size : Int) > 1
      · rw [if_pos h9]
        refine hj _ ?_
        unfold tailP
        rw [if_pos h8, if_neg (fun h => by have := (one _ hip).1 h; omega)]
      · rw [if_neg h9]
        refine hj _ ?_
        unfold tailP
        rw [if_pos h8, if_pos ((one _ hip).2 (by omega))]
  · rw [if_neg h1, if_neg (fun h => h1 h.1)]
    simp only [tollref03_Swap.j0]
    rw [if_pos trivial]
    exact ⟨_, _, rfl, rfl⟩

theorem path_awake (k : Nat) (hk : 3 ≤ k) : tolllaw03_awake.f k = some true := by
  unfold tolllaw03_awake.f
  have sz : ∀ (l : List UInt8), l.length ≤ 1000 → (⟨l.toArray⟩ : ByteArray).size ≤ 1000 := fun l h => by simpa [size_os] using h
  obtain ⟨t1, e1, h1, g1⟩ := path_swap 2 ⟨#[47, 97]⟩ ⟨#[47, 120]⟩ ⟨#[47, 97, 47, 98]⟩ k hk (by decide) (by decide) (by decide)
  obtain ⟨t2, e2, h2, g2⟩ := path_swap 2 ⟨#[47, 97]⟩ ⟨#[47]⟩ ⟨#[47, 97]⟩ k hk (by decide) (by decide) (by decide)
  obtain ⟨t3, e3, h3, g3⟩ := path_swap 2 ⟨#[47]⟩ ⟨#[47, 120]⟩ ⟨#[47, 98]⟩ k hk (by decide) (by decide) (by decide)
  have v1 : swapP 2 (os ⟨#[47, 97]⟩) (os ⟨#[47, 120]⟩) (os ⟨#[47, 97, 47, 98]⟩) = ([47, 120, 47, 98], 0) := by decide
  have v2 : swapP 2 (os ⟨#[47, 97]⟩) (os ⟨#[47]⟩) (os ⟨#[47, 97]⟩) = ([47], 0) := by decide
  have v3 : swapP 2 (os ⟨#[47]⟩) (os ⟨#[47, 120]⟩) (os ⟨#[47, 98]⟩) = ([47, 120, 47, 98], 0) := by decide
  rw [v1, Prod.mk.injEq] at g1
  rw [v2, Prod.mk.injEq] at g2
  rw [v3, Prod.mk.injEq] at g3
  rw [h1, Option.bind_some, h2, Option.bind_some, h3, Option.bind_some, path_holds 2 _ _ k (by omega) (by decide), Option.bind_some, path_holds 2 _ _ k (by omega) (by decide), Option.bind_some, path_holds 2 _ _ k (by omega) (by decide), Option.bind_some]
  simp only [toList_os]
  rw [if_pos (by decide), if_pos (by decide), if_neg (by decide), if_pos g1.1, if_pos g1.2, if_pos g2.1, if_pos g2.2, if_pos g3.1, if_pos g3.2]
end Go.Proofs.Ytfnckickbpmcaaa.L
