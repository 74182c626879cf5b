import Derived.Test.YtfdopmjgiakcdaaDoorPx0
import Derived.Test.YtfdopmjgiakcdaaDoorPx10
import Derived.Test.YtfdopmjgiakcdaaDoorPx4
import Derived.Test.YtfdopmjgiakcdaaDoorPx5
import Derived.Test.YtfdopmjgiakcdaaDoorPx6
import Derived.Test.YtfdopmjgiakcdaaDoorPx7
import Derived.Test.YtfdopmjgiakcdaaDoorPx8
import Derived.Test.YtfdopmjgiakcdaaDoorPx9
import Derived.Test.YtfdopmjgiakcdaaDoorWWords
import Derived.Laws.Strings
import Derived.Laws.Runes
namespace Go.Proofs.YtfdopmjgiakcdaaDoor.L
open Go Go.RowKit Go.Proofs.YtfdopmjgiakcdaaDoorW.PrintWords

abbrev os (s : ByteArray) : List UInt8 := s.data.toList

theorem toList_os (s : ByteArray) : s.toList = os s := ByteArray.toList_eq s
theorem size_os (s : ByteArray) : s.size = (os s).length := (Array.length_toList (xs := s.data)).symm
theorem os_append (s t : ByteArray) : os (s ++ t) = os s ++ os t := by
  simp [os, ByteArray.data_append]
theorem os_extract (s : ByteArray) (a b : Nat) : os (s.extract a b) = ((os s).drop a).take (b - a) := by
  simp [os, ByteArray.data_extract, Array.toList_extract, List.extract]
theorem bt_os (s : ByteArray) (i : Nat) : bt s (i : Int) = (((os s)[i]?.getD 0).toNat : Int) := by
  unfold bt
  have hs := size_os s
  by_cases h : ((i : Nat) : Int).toNat < s.size
  · rw [dif_pos h]
    have h' : i < (os s).length := by simp at h; omega
    rw [List.getElem?_eq_getElem h']
    rfl
  · rw [dif_neg h]
    have h' : (os s).length ≤ i := by simp at h; omega
    rw [List.getElem?_eq_none h']
    rfl
theorem wrap64_id {x : Int} (h1 : -9223372036854775808 ≤ x) (h2 : x ≤ 9223372036854775807) : wrap64 x = x := by unfold wrap64; omega
end Go.Proofs.YtfdopmjgiakcdaaDoor.L
namespace Go.Proofs.YtfdopmjgiakcdaaDoor.L
open Go Go.RowKit Go.Proofs.YtfdopmjgiakcdaaDoor.P Go.Proofs.YtfdopmjgiakcdaaDoorW.PrintWords Go.Proofs.YtfdopmjgiakcdaaDoorW.PrintLast

noncomputable def pok (c : UInt8) : Bool := decide (33 ≤ c.toNat) && (decide (c.toNat ≤ 126) && (c.toNat != 63 && c.toNat != 35))
noncomputable def isPath (l : List UInt8) : Bool := l.all pok && (l.head? == some 47 && decide (l.length ≤ 60))
noncomputable def above (l : List UInt8) : Bool := isPath l && (l == [47] || l.getLast? != some 47)
noncomputable def mayP (k : Int) (l : List UInt8) : Bool := (k == 1 && isPath l) || (k == 2 && above l)
noncomputable def holdsP (k : Int) (p s : List UInt8) : Bool := mayP k p && isPath s && (p == s || (k == 2 && (p == [47] || (p ++ [47]).isPrefixOf s)))

theorem isPath_head {l : List UInt8} (h : isPath l = true) : ∃ r, l = 47 :: r := by
  unfold isPath at h
  simp only [Bool.and_eq_true, decide_eq_true_eq, beq_iff_eq] at h
  cases l with
  | nil => simp at h
  | cons a r =>
    have := h.2.1
    simp at this
    exact ⟨r, by rw [this]⟩

theorem hasPrefix (s p : ByteArray) : strings_HasPrefix.f s p = some ((os p).isPrefixOf (os s)) := by
  have hs := size_os s
  have hp := size_os p
  unfold strings_HasPrefix.f stringslite_HasPrefix.f
  by_cases h : (s.size : Int) ≥ (p.size : Int)
  · rw [if_pos h, if_pos (by omega), if_pos (by omega), Option.bind_some]
    congr 1
    rw [toList_os, toList_os, os_extract, List.drop_zero, Nat.sub_zero, hp, Bool.eq_iff_iff, beq_iff_eq, List.isPrefixOf_iff_prefix]
    constructor
    · intro h
      rw [← h]
      exact List.take_prefix _ _
    · intro h
      exact (List.prefix_iff_eq_take.1 h).symm
  · rw [if_neg h, Option.bind_some]
    congr 1
    symm
    rw [Bool.eq_false_iff]
    intro hc
    have := (List.isPrefixOf_iff_prefix.1 hc).length_le
    omega
theorem hasSuffix (s p : ByteArray) (hl : s.size ≤ 9223372036854775807) : strings_HasSuffix.f s p = some ((os p).isSuffixOf (os s)) := by
  have hs := size_os s
  have hp := size_os p
  unfold strings_HasSuffix.f stringslite_HasSuffix.f
  by_cases h : (s.size : Int) ≥ (p.size : Int)
  · have hw : wrap64 ((s.size : Int) - (p.size : Int)) = ((s.size - p.size : Nat) : Int) := by rw [wrap64_id (by omega) (by omega)]; omega
    rw [if_pos h, hw, if_pos (by omega), if_pos (by omega), Option.bind_some]
    congr 1
    rw [toList_os, toList_os, os_extract, Int.toNat_natCast, Bool.eq_iff_iff, beq_iff_eq, List.isSuffixOf_iff_suffix, List.take_of_length_le (by simp)]
    rw [List.suffix_iff_eq_drop, ← hs, ← hp]
    exact eq_comm
  · rw [if_neg h, Option.bind_some]
    congr 1
    symm
    rw [Bool.eq_false_iff]
    intro hc
    have := (List.isSuffixOf_iff_suffix.1 hc).length_le
    omega

theorem path_is (s : ByteArray) : path_Is.f s = some (isPath (os s)) := by
  have hs := size_os s
  unfold path_Is.f isPath
  by_cases h : (os s).all path_Is.ok = true
  · rw [if_pos h, hasPrefix, Option.bind_some]
    have h2 : (os s).all pok = true := h
    rw [h2]
    have h3 : (os (⟨#[47]⟩ : ByteArray)).isPrefixOf (os s) = ((os s).head? == some 47) := by
      show [47].isPrefixOf (os s) = _
      cases os s with
      | nil => rfl
      | cons a r =>
        show (47 == a && true) = (some a == some 47)
        by_cases ha : a = 47
        · rw [ha]; rfl
        · rw [Bool.and_true, beq_eq_false_iff_ne.2 (Ne.symm ha), beq_eq_false_iff_ne.2 (fun h => ha (Option.some.inj h))]
    rw [h3]
    cases (os s).head? == some 47
    · rfl
    · rw [if_pos rfl, Bool.true_and, Bool.true_and]
      congr 1
      exact decide_eq_decide.2 (by omega)
  · rw [if_neg h]
    have h2 : (os s).all pok = false := by rw [Bool.eq_false_iff]; exact h
    rw [h2]
    rfl

theorem path_above_f (s : ByteArray) (hl : s.size ≤ 1000) : path_above.f s = some (above (os s)) := by
  unfold path_above.f above
  rw [path_is, Option.bind_some]
  cases h : isPath (os s)
  · rw [if_neg (by simp)]; rfl
  · rw [if_pos rfl, toList_os]
    by_cases h2 : os s = [47]
    · rw [if_pos h2, h2]; rfl
    · rw [if_neg h2, hasSuffix _ _ (by omega), Option.bind_some]
      have : (os s == [47]) = false := by simpa using h2
      rw [this, Bool.true_and, Bool.false_or]
      congr 1
      show (![47].isSuffixOf (os s)) = (!((os s).getLast? == some 47))
      congr 1
      rw [Bool.eq_iff_iff, List.isSuffixOf_iff_suffix, beq_iff_eq]
      constructor
      · rintro ⟨t, ht⟩
        rw [← ht]; simp
      · intro hg
        exact ⟨(os s).dropLast, by
          obtain ⟨l, hl⟩ := List.getLast?_eq_some_iff.1 hg
          rw [hl]; simp⟩
theorem path_may (k : Int) (s : ByteArray) (hl : s.size ≤ 1000) : path_May.f k s = some (mayP k (os s)) := by
  unfold path_May.f mayP
  rw [path_is, path_above_f s hl]
  by_cases h1 : k = 1
  · subst h1
    cases isPath (os s) <;> rfl
  · rw [if_neg h1, beq_eq_false_iff_ne.2 h1]
    by_cases h2 : k = 2
    · subst h2; rfl
    · rw [if_neg h2, beq_eq_false_iff_ne.2 h2]; rfl
theorem path_holds (k : Int) (p s : ByteArray) (n : Nat) (hn : 1 ≤ n) (hp : p.size ≤ 1000) : path_Holds.f n k p s = some (holdsP k (os p) (os s)) := by
  have hps := size_os p
  unfold path_Holds.f holdsP
  obtain ⟨n, rfl⟩ : ∃ m, n = m + 1 := ⟨n - 1, by omega⟩
  rw [path_may k p hp, Option.bind_some, path_is, Option.bind_some]
  simp only [path_Holds.j0]
  cases h1 : mayP k (os p)
  · rw [if_neg (by simp), if_pos trivial]; rfl
  rw [if_pos rfl]
  cases h2 : isPath (os s)
  · rfl
  show (if false = true then _ else _) = _
  rw [if_neg (by simp), toList_os, toList_os]
  by_cases h3 : os p = os s
  · rw [if_pos h3, h3]; simp
  rw [if_neg h3, beq_eq_false_iff_ne.2 h3]
  by_cases h4 : k = 2
  · subst h4
    rw [if_pos rfl]
    by_cases h5 : os p = [47]
    · rw [if_pos h5, h5]; rfl
    · rw [if_neg h5, if_pos (by omega), hasPrefix, Option.bind_some, os_append, beq_eq_false_iff_ne.2 h5]
      rfl
  · rw [if_neg h4, beq_eq_false_iff_ne.2 h4]; rfl
noncomputable def tailP (p s : List UInt8) : List UInt8 := if p = [47] then (if s = [47] then [] else s) else s.drop p.length
noncomputable def swapP (k : Int) (p w s : List UInt8) : List UInt8 × Int :=
  if k = 2 ∧ holdsP k p s = true ∧ above w = true then
    (if w = [47] then (if tailP p s = [] then ([47], 0) else (tailP p s, 0)) else if w.length + (tailP p s).length > 60 then ([], 5) else (w ++ tailP p s, 0))
  else ([], 1)
theorem holdsP_cases {k : Int} {p s : List UInt8} (h : holdsP k p s = true) : mayP k p = true ∧ isPath s = true ∧ (p = s ∨ k = 2 ∧ (p = [47] ∨ p ++ [47] <+: s)) := by
  unfold holdsP at h
  simp only [Bool.or_eq_true, Bool.and_eq_true, beq_iff_eq, List.isPrefixOf_iff_prefix] at h
  exact ⟨h.1.1, h.1.2, h.2⟩
theorem holdsP_prefix {k : Int} {p s : List UInt8} (h : holdsP k p s = true) : p <+: s := by
  obtain ⟨_, h2, h3⟩ := holdsP_cases h
  rcases h3 with rfl | ⟨_, rfl | h3⟩
  · exact List.prefix_refl _
  · obtain ⟨r, rfl⟩ := isPath_head h2
    exact ⟨r, rfl⟩
  · exact (List.prefix_append _ _).trans h3
theorem path_tail_f (k : Int) (p s : ByteArray) (h : os p <+: os s) : ∃ t, path_tail.f k p s = some t ∧ os t = tailP (os p) (os s) := by
  have hps := size_os p
  have hss := size_os s
  have hl := h.length_le
  unfold path_tail.f tailP
  rw [toList_os, toList_os]
  by_cases h1 : os p = [47]
  · rw [if_pos h1, if_pos h1]
    by_cases h2 : os s = [47]
    · rw [if_pos h2, if_pos h2]; exact ⟨_, rfl, rfl⟩
    · rw [if_neg h2, if_neg h2]; exact ⟨_, rfl, rfl⟩
  · rw [if_neg h1, if_neg h1, if_pos (by omega), if_pos (by omega)]
    refine ⟨_, rfl, ?_⟩
    rw [os_extract, hps, List.take_of_length_le (by rw [List.length_drop]; omega)]
theorem path_swap (k : Int) (p w s : ByteArray) (n : Nat) (hn : 3 ≤ n) (hp : p.size ≤ 1000) (hw : w.size ≤ 1000) (hs1 : s.size ≤ 1000) :
    ∃ t e, path_Swap.f n k p w s = some (t, e) ∧ (os t, e) = swapP k (os p) (os w) (os s) := by
  have hws := size_os w
  obtain ⟨n, rfl⟩ : ∃ m, n = m + 2 := ⟨n - 2, by omega⟩
  unfold path_Swap.f swapP
  by_cases h1 : k = 2
  · subst h1
    rw [if_pos rfl, path_holds 2 p s (n + 2) (by omega) hp, Option.bind_some, path_above_f w hw, Option.bind_some]
    simp only [path_Swap.j0]
    cases h2 : holdsP 2 (os p) (os s)
    · rw [if_neg (by simp), if_pos trivial, if_neg (by simp)]; exact ⟨_, _, rfl, rfl⟩
    rw [if_pos rfl]
    cases h3 : above (os w)
    · rw [if_pos (by rfl), if_neg (by simp)]; exact ⟨_, _, rfl, rfl⟩
    rw [if_neg (show ¬ ((!true) = true) by decide), if_pos (show True ∧ true = true ∧ true = true from ⟨trivial, rfl, rfl⟩)]
    obtain ⟨t, ht, hto⟩ := path_tail_f 2 p s (holdsP_prefix h2)
    have hts := size_os t
    rw [ht, Option.bind_some, toList_os, toList_os, ← hto]
    simp only [path_Swap.j1, toList_os]
    by_cases h4 : os w = [47]
    · simp only [if_pos h4]
      by_cases h5 : os t = []
      · rw [if_pos h5, h5, if_pos (by rfl)]; exact ⟨_, _, rfl, rfl⟩
      · rw [if_neg h5, if_neg (by simpa using h5)]; exact ⟨_, _, rfl, rfl⟩
    · simp only [if_neg h4]
      rw [if_neg (by simp)]
      have htl : (os t).length ≤ 1000 := by
        rw [hto]
        unfold tailP
        have hss := size_os s
        split
        · split
          · simp
          · omega
        · rw [List.length_drop]; omega
      rw [wrap64_id (by omega) (by omega)]
      by_cases h6 : (os w).length + (os t).length > 60
      · rw [if_pos (by omega), if_pos h6]; exact ⟨_, _, rfl, rfl⟩
      · rw [if_neg (by omega), if_neg h6, if_pos (by omega)]
        exact ⟨_, _, rfl, by rw [os_append]⟩
  · rw [if_neg h1, if_neg (fun h => h1 h.1)]
    simp only [path_Swap.j0]
    rw [if_pos trivial]
    exact ⟨_, _, rfl, rfl⟩
end Go.Proofs.YtfdopmjgiakcdaaDoor.L
namespace Go.Proofs.YtfdopmjgiakcdaaDoor.L
open Go Go.RowKit Go.Proofs.YtfdopmjgiakcdaaDoor.P Go.Proofs.YtfdopmjgiakcdaaDoorW.PrintWords Go.Proofs.YtfdopmjgiakcdaaDoorW.PrintLast

abbrev PT := S47
noncomputable def nb (s : ByteArray) : List UInt8 := (os s).map dns_Fold.b
noncomputable def eqN (a b : ByteArray) : Bool := nb a == nb b
noncomputable def Small (m : Nat) (l : List PT) : Prop := l.length ≤ m ∧ ∀ x ∈ l, (os x.f0).length ≤ 100 ∧ (os x.f1).length ≤ 100
theorem Small.mono {m m' : Nat} {l : List PT} (h : Small m l) (hm : m ≤ m') : Small m' l := ⟨Nat.le_trans h.1 hm, h.2⟩
theorem Small.filter {m : Nat} {l : List PT} (h : Small m l) (p : PT → Bool) : Small m (l.filter p) := ⟨Nat.le_trans (List.length_filter_le _ _) h.1, fun x hx => h.2 x (List.mem_filter.1 hx).1⟩

noncomputable def few (s : ByteArray) : ByteArray := if s.size > 100 then s.extract 0 100 else s
theorem few_eq (s : ByteArray) : tolllaw01_Few.f s = some (few s) := by
  unfold tolllaw01_Few.f few
  by_cases h : s.size > 100
  · rw [if_pos (by omega), if_pos (by decide), if_pos (by omega), if_pos h]
  · rw [if_neg (by omega), if_neg h]
theorem few_len (s : ByteArray) : (os (few s)).length ≤ 100 := by
  have hs := size_os s
  unfold few
  by_cases h : s.size > 100
  · rw [if_pos h, os_extract, List.length_take]; omega
  · rw [if_neg h]; omega
theorem fold_p (s : ByteArray) (h : (os s).length ≤ 1000) : dns_Fold.f s = some ⟨(nb s).toArray⟩ := by
  have hs := size_os s
  unfold dns_Fold.f
  rw [if_pos (by omega)]
  rfl
theorem same_p (a b : ByteArray) (ha : (os a).length ≤ 1000) (hb : (os b).length ≤ 1000) : pairs_Same.f a b = some (eqN a b) := by
  unfold pairs_Same.f eqN
  rw [fold_p a ha, Option.bind_some, fold_p b hb, Option.bind_some, toList_os, toList_os]
theorem eqN_refl (a : ByteArray) : eqN a a = true := by unfold eqN; simp
theorem pOf_p {n : ByteArray} (hn : (os n).length ≤ 100) {x : PT} (hx : (os x.f0).length ≤ 100) : pOf pairs_Same.f n x = eqN x.f0 n := by
  unfold pOf
  rw [same_p _ _ (by omega) (by omega)]
  cases eqN x.f0 n <;> rfl
theorem qAll_p {n : ByteArray} (hn : (os n).length ≤ 100) {m : Nat} {l : List PT} (hl : Small m l) : qAll pairs_Same.f l n = true :=
  List.all_eq_true.2 fun x hx => by rw [same_p _ _ (by have := (hl.2 x hx).1; omega) (by omega)]; rfl
theorem filter_p {n : ByteArray} (hn : (os n).length ≤ 100) {m : Nat} {l : List PT} (hl : Small m l) : (l.filter fun x => !pOf pairs_Same.f n x) = l.filter fun x => !eqN x.f0 n :=
  List.filter_congr fun x hx => by rw [pOf_p hn (hl.2 x hx).1]
theorem drop_p {n : ByteArray} (hn : (os n).length ≤ 100) {m : Nat} {l : List PT} (hl : Small m l) (hm : m ≤ 1000) : pairs_Drop.f l n = some (l.filter fun x => !eqN x.f0 n) := by
  unfold pairs_Drop.f
  rw [if_pos ⟨qAll_p hn hl, by have := hl.1; omega⟩, filter_p hn hl]
theorem add_p (n v : ByteArray) {m : Nat} {l : List PT} (hl : Small m l) (hm : m ≤ 1000) : pairs_Add.f l n v = some (l ++ [⟨n, v⟩]) := by
  have := hl.1
  unfold pairs_Add.f api_Pair_68.f
  rw [if_pos (by omega), Option.bind_some, if_pos (by omega)]
theorem idxI_two {α : Type} (p : α → Bool) (l : List α) : (idxI p l = -1 ∧ ∀ x ∈ l, p x = false) ∨ ∃ (k : Nat) (hk : k < l.length), idxI p l = (k : Int) ∧ p (l[k]'hk) = true ∧ ∀ j (hj : j < k), p (l[j]'(by omega)) = false := by
  by_cases h : l.any p = true
  · have hlt : l.findIdx p < l.length := List.findIdx_lt_length_of_exists (by obtain ⟨x, hx, hp⟩ := List.any_eq_true.1 h; exact ⟨x, hx, hp⟩)
    have h2 := (List.findIdx_eq hlt).1 rfl
    refine .inr ⟨_, hlt, by unfold idxI; rw [if_pos h], h2.1, fun j hj => by simpa using h2.2 j hj⟩
  · refine .inl ⟨by unfold idxI; rw [if_neg h], fun x hx => ?_⟩
    have h' : l.any p = false := by simpa using h
    simpa using List.any_eq_false.1 h' x hx
theorem idxI_congr {α : Type} {p q : α → Bool} {l : List α} (h : ∀ x ∈ l, p x = q x) : idxI p l = idxI q l := by
  rcases idxI_two p l with ⟨e, ha⟩ | ⟨k, hk, e, h1, h0⟩
  · rw [e, idxI_miss q l (fun j hj => by rw [← h _ (List.getElem_mem hj)]; exact ha _ (List.getElem_mem hj))]
  · rw [e, idxI_hit q l k hk (fun j hj => by rw [← h _ (List.getElem_mem _)]; exact h0 j hj) (by rw [← h _ (List.getElem_mem _)]; exact h1)]
noncomputable def setL (n v : ByteArray) : List PT → Bool → List PT
  | [], done => if done = true then [] else [⟨n, v⟩]
  | x :: r, done => if eqN x.f0 n = true then (if done = true then setL n v r true else ⟨n, v⟩ :: setL n v r true) else x :: setL n v r done
theorem setL_true (n v : ByteArray) : ∀ l : List PT, setL n v l true = l.filter fun x => !eqN x.f0 n
  | [] => rfl
  | x :: r => by
    rw [setL, setL_true n v r, List.filter_cons]
    cases eqN x.f0 n <;> rfl
theorem setL_skip (n v : ByteArray) : ∀ (p l : List PT), (∀ x ∈ p, eqN x.f0 n = false) → setL n v (p ++ l) false = p ++ setL n v l false
  | [], l, _ => rfl
  | x :: r, l, h => by
    rw [List.cons_append, setL, h x List.mem_cons_self, if_neg (by decide), setL_skip n v r l (fun y hy => h y (List.mem_cons_of_mem _ hy)), List.cons_append]
theorem filter_none (n : ByteArray) (p : List PT) (h : ∀ x ∈ p, eqN x.f0 n = false) : (p.filter fun x => !eqN x.f0 n) = p := List.filter_eq_self.2 fun x hx => by rw [h x hx]; rfl
theorem split_n (n : ByteArray) (l : List PT) : (∀ x ∈ l, eqN x.f0 n = false) ∨ ∃ p x r, l = p ++ x :: r ∧ eqN x.f0 n = true ∧ ∀ y ∈ p, eqN y.f0 n = false := by
  induction l with
  | nil => exact .inl (fun x hx => by cases hx)
  | cons a r ih =>
    cases h : eqN a.f0 n with
    | true => exact .inr ⟨[], a, r, rfl, h, fun y hy => by cases hy⟩
    | false =>
      rcases ih with ih | ⟨p, x, r', e, h1, h2⟩
      · refine .inl fun x hx => ?_
        rcases List.mem_cons.1 hx with rfl | hx
        · exact h
        · exact ih x hx
      · refine .inr ⟨a :: p, x, r', by rw [e]; rfl, h1, fun y hy => ?_⟩
        rcases List.mem_cons.1 hy with rfl | hy
        · exact h
        · exact h2 y hy
theorem set_p {n : ByteArray} (hn : (os n).length ≤ 100) (v : ByteArray) {m : Nat} {l : List PT} (hl : Small m l) (hm : m ≤ 1000) : pairs_Set.f l n v = some (setL n v l false) := by
  unfold pairs_Set.f
  rw [if_pos (qAll_p hn hl), idxI_congr (fun x hx => pOf_p hn (hl.2 x hx).1)]
  rcases split_n n l with h | ⟨p, x, r, rfl, h1, h0⟩
  · rw [idxI_miss _ l (fun j hj => h _ (List.getElem_mem hj)), if_pos (by decide), add_p n v hl hm]
    have := setL_skip n v l [] h
    rw [List.append_nil] at this
    rw [this]; rfl
  · have hi : idxI (fun x : PT => eqN x.f0 n) (p ++ x :: r) = (p.length : Int) := idxI_hit _ _ p.length (by simp) (fun j hj => by rw [List.getElem_append_left hj]; exact h0 _ (List.getElem_mem hj)) (by simpa using h1)
    rw [hi, if_neg (by omega), drop_p hn hl hm, setL_skip n v p _ h0, Int.toNat_natCast, List.filter_append, filter_none n p h0, setL, if_pos h1, if_neg (by decide), setL_true]
    simp [h1]
theorem setL_small {n v : ByteArray} (hn : (os n).length ≤ 100) (hv : (os v).length ≤ 100) {m : Nat} {l : List PT} (hl : Small m l) : Small (m + 1) (setL n v l false) := by
  rcases split_n n l with h | ⟨p, x, r, rfl, h1, h0⟩
  · have := setL_skip n v l [] h
    rw [List.append_nil] at this
    rw [this]
    refine ⟨by have := hl.1; simp [setL]; omega, fun y hy => ?_⟩
    rcases List.mem_append.1 hy with hy | hy
    · exact hl.2 y hy
    · rw [show setL n v [] false = [⟨n, v⟩] from rfl, List.mem_singleton] at hy
      rw [hy]; exact ⟨hn, hv⟩
  · rw [setL_skip n v p _ h0, setL, if_pos h1, if_neg (by decide), setL_true]
    have h3 := List.length_filter_le (fun x : PT => !eqN x.f0 n) r
    have h4 := hl.1
    rw [List.length_append, List.length_cons] at h4
    refine ⟨by rw [List.length_append, List.length_cons]; omega, fun y hy => ?_⟩
    rcases List.mem_append.1 hy with hy | hy
    · exact hl.2 y (List.mem_append_left _ hy)
    · rcases List.mem_cons.1 hy with rfl | hy
      · exact ⟨hn, hv⟩
      · exact hl.2 y (List.mem_append_right _ (List.mem_cons_of_mem _ (List.mem_filter.1 hy).1))

theorem wrapS {i : Nat} (h : i ≤ 100000) : wrap64 ((i : Int) + 1) = ((i + 1 : Nat) : Int) := by rw [wrap64_id (by omega) (by omega)]; omega
theorem same4_loop (l : List PT) (hl : l.length ≤ 10000) : ∀ (n i k : Nat), l.length - i ≤ n → i ≤ l.length → n + 1 ≤ k → tollref04_Same.l0 k l l (i : Int) = some true := by
  intro n
  induction n with
  | zero =>
    intro i k h1 h2 h3
    obtain ⟨k, rfl⟩ : ∃ m, k = m + 1 := ⟨k - 1, by omega⟩
    rw [tollref04_Same.l0, if_neg (by omega)]
  | succ n ih =>
    intro i k h1 h2 h3
    obtain ⟨k, rfl⟩ : ∃ m, k = m + 1 := ⟨k - 1, by omega⟩
    rw [tollref04_Same.l0]
    by_cases hi : i < l.length
    · rw [if_pos (by omega), if_pos (by omega), if_pos (by omega), if_neg (by simp), wrapS (by omega)]
      exact ih (i + 1) k (by omega) (by omega) (by omega)
    · rw [if_neg (by omega)]
theorem same4 (l : List PT) (k : Nat) (hl : l.length ≤ 500) (hk : 600 ≤ k) : tollref04_Same.f k l l = some true := by
  unfold tollref04_Same.f
  rw [if_pos rfl]
  exact same4_loop l (by omega) l.length 0 k (by omega) (by omega) (by omega)
end Go.Proofs.YtfdopmjgiakcdaaDoor.L
namespace Go.Proofs.YtfdopmjgiakcdaaDoor.L
open Go Go.RowKit Go.Proofs.YtfdopmjgiakcdaaDoor.P Go.Proofs.YtfdopmjgiakcdaaDoorW.PrintWords Go.Proofs.YtfdopmjgiakcdaaDoorW.PrintLast

end Go.Proofs.YtfdopmjgiakcdaaDoor.L
namespace Go.Proofs.YtfdopmjgiakcdaaDoor.L
open Go Go.RowKit Go.Proofs.YtfdopmjgiakcdaaDoor.P Go.Proofs.YtfdopmjgiakcdaaDoorW.PrintWords Go.Proofs.YtfdopmjgiakcdaaDoorW.PrintLast

noncomputable def marks : List UInt8 := [33, 35, 36, 37, 38, 39, 42, 43, 45, 46, 94, 95, 96, 124, 126]
noncomputable def tok (c : UInt8) : Bool := (decide (97 ≤ c.toNat ||| 32) && decide (c.toNat ||| 32 ≤ 122)) || ((decide (48 ≤ c.toNat) && decide (c.toNat ≤ 57)) || marks.any (· == c))
theorem bits_or : ∀ n : Fin 256, Go.bits .or .u8 ((n : Nat) : Int) 32 = (((n : Nat) ||| 32 : Nat) : Int) := by decide +kernel
theorem bits_or' (c : UInt8) : Go.bits .or .u8 ((c.toNat : Nat) : Int) 32 = ((c.toNat ||| 32 : Nat) : Int) := bits_or ⟨c.toNat, c.toNat_lt⟩
noncomputable def isTok (l : List UInt8) : Bool := l.all tok && (decide (l ≠ []) && decide (l.length ≤ 40))
theorem bt_c {s : ByteArray} {i : Nat} (h : i < (os s).length) : bt s (i : Int) = (((os s)[i]'h).toNat : Int) := by
  rw [bt_os, List.getElem?_eq_getElem h]; rfl
theorem fin_tok (s : ByteArray) : (if os s = ([] : List UInt8) then (some false : Option Bool) else some (decide ((s.size : Int) ≤ 40))) = some (decide (os s ≠ []) && decide ((os s).length ≤ 40)) := by
  have hsz := size_os s
  by_cases h : os s = []
  · rw [if_pos h, h]; rfl
  · rw [if_neg h, show decide (os s ≠ []) = true from decide_eq_true h, Bool.true_and]
    congr 1
    rw [decide_eq_decide]; omega
theorem tok_p_loop (s : ByteArray) (hs : (os s).length ≤ 1000) : ∀ (n i k : Nat), (os s).length - i ≤ n → i ≤ (os s).length → n + 1 ≤ k → pairs_Token.l0 k s (s.size : Int) (i : Int) = some (((os s).drop i).all tok && (decide (os s ≠ []) && decide ((os s).length ≤ 40))) := by
  have hsz := size_os s
  intro n
  induction n with
  | zero =>
    intro i k h1 h2 h3
    obtain ⟨k, rfl⟩ : ∃ m, k = m + 1 := ⟨k - 1, by omega⟩
    rw [pairs_Token.l0, if_neg (by omega), List.drop_eq_nil_of_le (by omega), toList_os, fin_tok]; rfl
  | succ n ih =>
    intro i k h1 h2 h3
    obtain ⟨k, rfl⟩ : ∃ m, k = m + 1 := ⟨k - 1, by omega⟩
    by_cases hi : i < (os s).length
    · rw [pairs_Token.l0, if_pos (by omega), if_pos (by omega), if_pos (by omega), bt_c hi, bits_or', wrapS (by omega), ih (i + 1) k (by omega) (by omega) (by omega), List.drop_eq_getElem_cons hi, List.all_cons]
      generalize (os s)[i]'hi = c
      rw [Bool.and_assoc]
      generalize (((os s).drop (i + 1)).all tok && (decide (os s ≠ []) && decide ((os s).length ≤ 40))) = rest
      have hf : ∀ c : UInt8, strings_IndexByte.f ⟨#[33, 35, 36, 37, 38, 39, 42, 43, 45, 46, 94, 95, 96, 124, 126]⟩ ((c.toNat : Nat) : Int) = some (firstIdx ⟨#[33, 35, 36, 37, 38, 39, 42, 43, 45, 46, 94, 95, 96, 124, 126]⟩ c) := fun c => by
        unfold strings_IndexByte.f stringslite_IndexByte.f
        rw [Option.bind_some, Int.toNat_natCast, show c.toNat.toUInt8 = c from UInt8.ofNat_toNat]
      have hm := firstIdx_nonneg ⟨#[33, 35, 36, 37, 38, 39, 42, 43, 45, 46, 94, 95, 96, 124, 126]⟩ c
      have hmm : (⟨#[33, 35, 36, 37, 38, 39, 42, 43, 45, 46, 94, 95, 96, 124, 126]⟩ : ByteArray).data.toList = marks := rfl
      rw [hmm] at hm
      have ht : tok c = ((decide (97 ≤ c.toNat ||| 32) && decide (c.toNat ||| 32 ≤ 122)) || ((decide (48 ≤ c.toNat) && decide (c.toNat ≤ 57)) || marks.any (· == c))) := rfl
      rw [ht, ← hm, hf]
      simp only [Option.bind_some]
      generalize firstIdx ⟨#[33, 35, 36, 37, 38, 39, 42, 43, 45, 46, 94, 95, 96, 124, 126]⟩ c = x
      generalize c.toNat ||| 32 = y
      generalize c.toNat = z
      by_cases a1 : (97 : Int) ≤ (y : Int) <;> by_cases a2 : (y : Int) ≤ 122 <;> by_cases a3 : (48 : Int) ≤ (z : Int) <;> by_cases a4 : (z : Int) ≤ 57 <;> by_cases a5 : 0 ≤ x <;> simp [a1, a2, a3, a4, a5, ge_iff_le] <;> omega
    · rw [pairs_Token.l0, if_neg (by omega), List.drop_eq_nil_of_le (by omega), toList_os, fin_tok]; rfl
theorem tok_p (s : ByteArray) (hs : (os s).length ≤ 1000) (k : Nat) (hk : 1100 ≤ k) : pairs_Token.f k s = some (isTok (os s)) := by
  have := tok_p_loop s hs (os s).length 0 k (by omega) (by omega) (by omega)
  rw [List.drop_zero] at this
  exact this
noncomputable def isVal (l : List UInt8) : Bool := l.all (fun c => decide (32 ≤ c.toNat) && decide (c.toNat ≤ 126)) && (decide (l.length ≤ 40) && (decide (l.head? ≠ some 32) && decide (l.getLast? ≠ some 32)))
theorem trimL (c : UInt8) : ∀ (n k : Nat) (s : ByteArray), (os s).length ≤ n → n + 1 ≤ k → ∃ t, strings_trimLeftByte.l0 k s (c.toNat : Int) = some t ∧ os t = (os s).dropWhile (· == c) := by
  intro n
  induction n with
  | zero =>
    intro k s h1 h2
    have hs := size_os s
    obtain ⟨k, rfl⟩ : ∃ m, k = m + 1 := ⟨k - 1, by omega⟩
    have h0 : os s = [] := List.eq_nil_of_length_eq_zero (by omega)
    rw [strings_trimLeftByte.l0, if_neg (by omega)]
    exact ⟨s, rfl, by rw [h0]; rfl⟩
  | succ n ih =>
    intro k s h1 h2
    have hs := size_os s
    obtain ⟨k, rfl⟩ : ∃ m, k = m + 1 := ⟨k - 1, by omega⟩
    by_cases hp : 0 < (os s).length
    · have hb : bt s 0 = (((os s)[0]'hp).toNat : Int) := bt_c hp
      rw [strings_trimLeftByte.l0, if_pos (by omega), if_pos (by omega), hb]
      obtain ⟨a, r, e⟩ : ∃ a r, os s = a :: r := by
        cases h : os s with
        | nil => rw [h] at hp; simp at hp
        | cons a r => exact ⟨a, r, rfl⟩
      have ha : (os s)[0]'hp = a := by simp [e]
      rw [ha]
      by_cases hc : a = c
      · subst hc
        rw [if_pos rfl, if_pos (by omega)]
        have ht : os (s.extract 1 s.size) = r := by rw [os_extract, e, List.drop_one, List.tail_cons, List.take_of_length_le (by rw [hs, e, List.length_cons]; omega)]
        obtain ⟨t, h3, h4⟩ := ih k (s.extract 1 s.size) (by rw [ht]; rw [e, List.length_cons] at h1; omega) (by omega)
        exact ⟨t, h3, by rw [h4, ht, e, List.dropWhile_cons]; simp⟩
      · rw [if_neg (fun h => hc (UInt8.toNat_inj.1 (by omega)))]
        exact ⟨s, rfl, by rw [e, List.dropWhile_cons]; simp [hc]⟩
    · have h0 : os s = [] := List.eq_nil_of_length_eq_zero (by omega)
      rw [strings_trimLeftByte.l0, if_neg (by omega)]
      exact ⟨s, rfl, by rw [h0]; rfl⟩
theorem trimR (c : UInt8) : ∀ (n k : Nat) (s : ByteArray), (os s).length ≤ n → n ≤ 1000 → n + 1 ≤ k → ∃ t, strings_trimRightByte.l0 k s (c.toNat : Int) = some t ∧ os t = ((os s).reverse.dropWhile (· == c)).reverse := by
  intro n
  induction n with
  | zero =>
    intro k s h1 h2 h3
    have hs := size_os s
    obtain ⟨k, rfl⟩ : ∃ m, k = m + 1 := ⟨k - 1, by omega⟩
    have h0 : os s = [] := List.eq_nil_of_length_eq_zero (by omega)
    rw [strings_trimRightByte.l0, if_neg (by omega)]
    exact ⟨s, rfl, by rw [h0]; rfl⟩
  | succ n ih =>
    intro k s h1 h2 h3
    have hs := size_os s
    obtain ⟨k, rfl⟩ : ∃ m, k = m + 1 := ⟨k - 1, by omega⟩
    by_cases hp : 0 < (os s).length
    · obtain ⟨r, a, e⟩ : ∃ r a, os s = r ++ [a] := ⟨_, _, (List.dropLast_concat_getLast (List.ne_nil_of_length_pos hp)).symm⟩
      have hl : (os s).length = r.length + 1 := by rw [e]; simp
      have hw : wrap64 ((s.size : Int) - 1) = ((r.length : Nat) : Int) := by rw [wrap64_id (by omega) (by omega)]; omega
      have hb : bt s ((r.length : Nat) : Int) = (a.toNat : Int) := by rw [bt_c (by omega)]; simp [e]
      rw [strings_trimRightByte.l0, if_pos (by omega), hw, if_pos (by omega), if_pos (by omega), hb]
      by_cases hc : a = c
      · subst hc
        rw [if_pos rfl, if_pos (by omega)]
        have ht : os (s.extract 0 ((r.length : Nat) : Int).toNat) = r := by rw [os_extract, e, List.drop_zero, Int.toNat_natCast, Nat.sub_zero, List.take_left]
        obtain ⟨t, h4, h5⟩ := ih k (s.extract 0 ((r.length : Nat) : Int).toNat) (by rw [ht]; omega) (by omega) (by omega)
        exact ⟨t, h4, by rw [h5, ht, e]; simp⟩
      · rw [if_neg (fun h => hc (UInt8.toNat_inj.1 (by omega)))]
        exact ⟨s, rfl, by rw [e]; simp [hc]⟩
    · have h0 : os s = [] := List.eq_nil_of_length_eq_zero (by omega)
      rw [strings_trimRightByte.l0, if_neg (by omega)]
      exact ⟨s, rfl, by rw [h0]; rfl⟩
theorem dropWhile_len {α : Type} (p : α → Bool) : ∀ l : List α, (l.dropWhile p).length ≤ l.length ∧ ((l.dropWhile p).length = l.length → l.dropWhile p = l ∧ ∀ a, l.head? = some a → p a = false)
  | [] => ⟨Nat.le_refl _, fun _ => ⟨rfl, fun a h => by cases h⟩⟩
  | a :: r => by
    have ih := dropWhile_len p r
    rw [List.dropWhile_cons]
    cases h : p a with
    | true =>
      simp only [if_true, List.length_cons]
      exact ⟨by omega, fun h => by omega⟩
    | false => exact ⟨Nat.le_refl _, fun _ => ⟨rfl, fun b hb => by cases hb; exact h⟩⟩
theorem dropWhile_id {α : Type} (p : α → Bool) (l : List α) (h : ∀ a, l.head? = some a → p a = false) : l.dropWhile p = l := by
  cases l with
  | nil => rfl
  | cons a r => rw [List.dropWhile_cons, h a rfl]; rfl
theorem trim_p (s : ByteArray) (hs : (os s).length ≤ 1000) (k : Nat) (hk : 1100 ≤ k) : ∃ t, strings_Trim.f k s ⟨#[32]⟩ = some t ∧ (os t == os s) = (decide ((os s).head? ≠ some 32) && decide ((os s).getLast? ≠ some 32)) := by
  unfold strings_Trim.f
  rw [toList_os]
  obtain ⟨k, rfl⟩ : ∃ m, k = m + 2 := ⟨k - 2, by omega⟩
  by_cases h0 : os s = []
  · rw [if_pos h0, strings_Trim.j0, if_pos rfl]
    exact ⟨s, rfl, by rw [h0]; rfl⟩
  · rw [if_neg h0, show ((⟨#[32]⟩ : ByteArray).toList == ([] : List UInt8)) = false from by rw [toList_os]; rfl, strings_Trim.j0, if_neg (by decide), if_pos (by decide), if_pos (by decide), show decide ((bt ⟨#[32]⟩ 0) < 128) = true from by decide, strings_Trim.j1, if_pos rfl, if_pos (by decide)]
    have hb : bt ⟨#[32]⟩ 0 = ((32 : UInt8).toNat : Int) := by decide
    obtain ⟨t, h1, h2⟩ := trimR 32 (os s).length k s (Nat.le_refl _) hs (by omega)
    have hlt : (os t).length ≤ (os s).length := by rw [h2, List.length_reverse]; have := (dropWhile_len (· == (32 : UInt8)) (os s).reverse).1; rwa [List.length_reverse] at this
    obtain ⟨u, h3, h4⟩ := trimL 32 (os t).length k t (Nat.le_refl _) (by omega)
    unfold strings_trimRightByte.f strings_trimLeftByte.f
    rw [hb, h1, Option.bind_some, h3, Option.bind_some]
    refine ⟨u, rfl, ?_⟩
    rw [Bool.eq_iff_iff, beq_iff_eq, Bool.and_eq_true, decide_eq_true_eq, decide_eq_true_eq]
    constructor
    · intro he
      have e1 : (os u).length = (os s).length := by rw [he]
      have d1 := dropWhile_len (· == (32 : UInt8)) (os t)
      rw [← h4] at d1
      have e2 : (os u).length = (os t).length := by omega
      have d2 := dropWhile_len (· == (32 : UInt8)) (os s).reverse
      have e3 : ((os s).reverse.dropWhile (· == (32 : UInt8))).length = (os s).reverse.length := by
        rw [List.length_reverse]
        have := congrArg List.length h2
        rw [List.length_reverse] at this
        omega
      have f1 := (d1.2 e2).2
      have f2 := (d2.2 e3).2
      have e4 : os t = os s := by rw [h2, (d2.2 e3).1, List.reverse_reverse]
      rw [e4] at f1
      refine ⟨fun h => ?_, fun h => ?_⟩
      · have := f1 32 h; simp at this
      · rw [List.head?_reverse] at f2
        have := f2 32 h; simp at this
    · rintro ⟨f1, f2⟩
      have e1 : os t = os s := by
        rw [h2, dropWhile_id, List.reverse_reverse]
        intro a ha
        rw [List.head?_reverse] at ha
        refine beq_eq_false_iff_ne.2 fun e => f2 ?_
        rw [ha, e]
      rw [h4, e1, dropWhile_id]
      intro a ha
      refine beq_eq_false_iff_ne.2 fun e => f1 ?_
      rw [ha, e]
theorem val_p_loop (s : ByteArray) (hs : (os s).length ≤ 1000) : ∀ (n i k : Nat), (os s).length - i ≤ n → i ≤ (os s).length → n + 1101 ≤ k → pairs_Value.l0 k s (s.size : Int) (i : Int) = some (((os s).drop i).all (fun c => decide (32 ≤ c.toNat) && decide (c.toNat ≤ 126)) && (decide ((os s).length ≤ 40) && (decide ((os s).head? ≠ some 32) && decide ((os s).getLast? ≠ some 32)))) := by
  have hsz := size_os s
  have hend : ∀ k, 1100 ≤ k → pairs_Value.l0 (k + 1) s (s.size : Int) ((os s).length : Int) = some (decide ((os s).length ≤ 40) && (decide ((os s).head? ≠ some 32) && decide ((os s).getLast? ≠ some 32))) := fun k hk => by
    rw [pairs_Value.l0, if_neg (by omega)]
    obtain ⟨t, h1, h2⟩ := trim_p s hs k hk
    by_cases h : (os s).length ≤ 40
    · rw [if_pos (by omega), h1, Option.bind_some, toList_os, toList_os, h2, decide_eq_true h, Bool.true_and]
    · rw [if_neg (by omega), decide_eq_false h, Bool.false_and]
  intro n
  induction n with
  | zero =>
    intro i k h1 h2 h3
    obtain ⟨k, rfl⟩ : ∃ m, k = m + 1 := ⟨k - 1, by omega⟩
    obtain rfl : i = (os s).length := by omega
    rw [hend k (by omega), List.drop_length]; rfl
  | succ n ih =>
    intro i k h1 h2 h3
    obtain ⟨k, rfl⟩ : ∃ m, k = m + 1 := ⟨k - 1, by omega⟩
    by_cases hi : i < (os s).length
    · rw [pairs_Value.l0, if_pos (by omega), if_pos (by omega), if_pos (by omega), bt_c hi, wrapS (by omega), ih (i + 1) k (by omega) (by omega) (by omega), List.drop_eq_getElem_cons hi, List.all_cons]
      by_cases a1 : ((os s)[i]'hi).toNat < 32
      · rw [if_pos (by omega), show decide (32 ≤ ((os s)[i]'hi).toNat) = false from decide_eq_false (by omega)]; rfl
      · rw [if_neg (by omega), show decide (32 ≤ ((os s)[i]'hi).toNat) = true from decide_eq_true (by omega)]
        by_cases a2 : ((os s)[i]'hi).toNat > 126
        · rw [if_pos (by omega), show decide (((os s)[i]'hi).toNat ≤ 126) = false from decide_eq_false (by omega)]; rfl
        · rw [if_neg (by omega), show decide (((os s)[i]'hi).toNat ≤ 126) = true from decide_eq_true (by omega)]; rfl
    · obtain rfl : i = (os s).length := by omega
      rw [hend k (by omega), List.drop_length]; rfl
theorem val_p (s : ByteArray) (hs : (os s).length ≤ 1000) (k : Nat) (hk : 2200 ≤ k) : pairs_Value.f k s = some (isVal (os s)) := by
  have := val_p_loop s hs (os s).length 0 k (by omega) (by omega) (by omega)
  rw [List.drop_zero] at this
  exact this
end Go.Proofs.YtfdopmjgiakcdaaDoor.L
namespace Go.Proofs.YtfdopmjgiakcdaaDoor.L
open Go Go.RowKit Go.Proofs.YtfdopmjgiakcdaaDoor.P Go.Proofs.YtfdopmjgiakcdaaDoorW.PrintWords Go.Proofs.YtfdopmjgiakcdaaDoorW.PrintLast
noncomputable def nm (l : List UInt8) : Bool := decide (l.length ≤ 60) && (pieces 46 ⟨l.toArray⟩).all labB
theorem name_p (s : ByteArray) : dns_Name.f s = some (nm (os s)) := by
  unfold dns_Name.f nm
  rw [size_os s]

noncomputable def splitL (c : UInt8) : List UInt8 → List (List UInt8)
  | [] => [[]]
  | x :: r => if x = c then [] :: splitL c r else (x :: (splitL c r).headD []) :: (splitL c r).tail
theorem splitL_free {c : UInt8} : ∀ {u : List UInt8}, c ∉ u → splitL c u = [u]
  | [], _ => rfl
  | x :: r, h => by
    have hx : x ≠ c := fun e => h (by rw [e]; simp)
    rw [splitL, if_neg hx, splitL_free (u := r) (fun hm => h (List.mem_cons_of_mem _ hm))]; rfl
theorem splitL_at {c : UInt8} : ∀ {u : List UInt8} (v : List UInt8), c ∉ u → splitL c (u ++ c :: v) = u :: splitL c v
  | [], v, _ => by rw [List.nil_append, splitL, if_pos rfl]
  | x :: r, v, h => by
    have hx : x ≠ c := fun e => h (by rw [e]; simp)
    rw [List.cons_append, splitL, if_neg hx, splitL_at v (fun hm => h (List.mem_cons_of_mem _ hm))]; rfl
theorem get_bang (s : ByteArray) (i : Nat) (h : i < (os s).length) : s[i]! = (os s)[i]'h := by
  have hs := size_os s
  rw [getElem!_pos s i (by omega)]
  rfl
theorem firstIdx_two (s : ByteArray) (c : UInt8) : (firstIdx s c = -1 ∧ c ∉ os s) ∨ ∃ i : Nat, firstIdx s c = (i : Int) ∧ ∃ h : i < (os s).length, c ∉ (os s).take i ∧ (os s)[i] = c := by
  have hs := size_os s
  unfold firstIdx
  cases hf : (List.range s.size).find? (fun i => s[i]! == c) with
  | none =>
    left
    refine ⟨rfl, fun hm => ?_⟩
    obtain ⟨i, hi, hc⟩ := List.getElem_of_mem hm
    have := List.find?_eq_none.1 hf i (List.mem_range.2 (by omega))
    rw [get_bang s i hi, hc] at this
    simp at this
  | some i =>
    right
    have hi := List.mem_range.1 (List.mem_of_find?_eq_some hf)
    have hil : i < (os s).length := by omega
    refine ⟨i, rfl, hil, fun hm => ?_, ?_⟩
    · obtain ⟨j, hj, hc⟩ := List.getElem_of_mem hm
      rw [List.length_take] at hj
      rw [List.getElem_take] at hc
      have h1 := (List.find?_eq_some_iff_getElem.1 hf).2
      obtain ⟨k, hk, hki, hlt⟩ := h1
      rw [List.length_range] at hk
      rw [List.getElem_range] at hki
      subst hki
      have := hlt j (by omega)
      rw [List.getElem_range, get_bang s j (by omega), hc] at this
      simp at this
    · have := List.find?_some hf
      rw [get_bang s i hil] at this
      exact eq_of_beq this
theorem pieces_p (c : UInt8) : ∀ (n : Nat) (s : ByteArray), (os s).length ≤ n → (pieces c s).map os = splitL c (os s) := by
  intro n
  induction n with
  | zero =>
    intro s h
    rcases firstIdx_two s c with ⟨h1, h2⟩ | ⟨i, _, h2, _⟩
    · unfold pieces
      rw [cuts_neg (by rw [h1]; decide), splitL_free h2]; rfl
    · omega
  | succ n ih =>
    intro s h
    have hs := size_os s
    rcases firstIdx_two s c with ⟨h1, h2⟩ | ⟨i, h1, h2, h3, h4⟩
    · unfold pieces
      rw [cuts_neg (by rw [h1]; decide), splitL_free h2]; rfl
    · have e := cuts_cons (fun t => firstIdx t c) 1 (Nat.le_refl _) (fun t h => firstIdx_fit c t h) (s := s) (i := i) h1
      have e2 : os s = (os s).take i ++ c :: (os s).drop (i + 1) := by
        conv => lhs; rw [← List.take_append_drop i (os s), List.drop_eq_getElem_cons h2, h4]
      have e3 : os (s.extract (i + 1) s.size) = (os s).drop (i + 1) := by rw [os_extract, List.take_of_length_le (by rw [List.length_drop]; omega)]
      have e4 : os (s.extract 0 i) = (os s).take i := by rw [os_extract, List.drop_zero, Nat.sub_zero]
      have := ih (s.extract (i + 1) s.size) (by rw [e3, List.length_drop]; omega)
      unfold pieces at this ⊢
      rw [e, List.map_cons, this, e3, e4]
      conv => rhs; rw [e2]
      rw [splitL_at _ h3]
noncomputable def octL (c : UInt8) : Bool := (decide (97 ≤ c.toNat) && decide (c.toNat ≤ 122)) || ((decide (48 ≤ c.toNat) && decide (c.toNat ≤ 57)) || c.toNat == 45)
noncomputable def labL (l : List UInt8) : Bool := decide (l ≠ []) && (decide (l.length ≤ 20) && (l.all octL && (decide (l.head? ≠ some 45) && decide (l.getLast? ≠ some 45))))
theorem lab_p (s : ByteArray) : labB s = labL (os s) := by
  have hs := size_os s
  have h0 : dns_Label.f s = some (labL (os s)) := by
    unfold dns_Label.f labL strings_IndexFunc_with_dns_Label_1.f
    rw [Option.bind_some, toList_os]
    have hi := idxRune_neg strings_IndexFunc_with_dns_Label_1.p (fun r hr => by
      unfold strings_IndexFunc_with_dns_Label_1.p octB
      rw [decide_eq_false (show ¬ r ≤ 122 by omega), decide_eq_false (show ¬ r ≤ 57 by omega), beq_eq_false_iff_ne.2 (show r ≠ 45 by omega)]
      simp) s
    have hall : (s.data.toList.all fun c => !strings_IndexFunc_with_dns_Label_1.p c.toNat) = (os s).all octL := by
      congr 1
      funext c
      unfold strings_IndexFunc_with_dns_Label_1.p octB octL
      rw [Bool.not_not]
    rw [hall] at hi
    by_cases c1 : os s = []
    · rw [if_pos c1, c1]; rfl
    · rw [if_neg c1, decide_eq_true (show os s ≠ [] from c1), Bool.true_and]
      have hl : 0 < (os s).length := by cases h : os s with | nil => exact absurd h c1 | cons => simp
      by_cases c2 : (os s).length ≤ 20
      · rw [if_pos (by omega), decide_eq_true c2, Bool.true_and, wrap64_id (by omega) (by omega)]
        by_cases c3 : idxRune strings_IndexFunc_with_dns_Label_1.p s < 0
        · rw [if_pos c3, if_pos (by omega)]
          rw [decide_eq_true c3] at hi
          rw [← hi, Bool.true_and]
          have b0 : bt s 0 = (((os s)[0]'hl).toNat : Int) := by
            have := bt_os s 0
            rw [List.getElem?_eq_getElem hl] at this
            exact this
          have b1 : bt s ((s.size : Int) - 1) = (((os s)[(os s).length - 1]'(by omega)).toNat : Int) := by
            have := bt_os s ((os s).length - 1)
            rw [List.getElem?_eq_getElem (show (os s).length - 1 < (os s).length by omega)] at this
            rw [show (s.size : Int) - 1 = (((os s).length - 1 : Nat) : Int) by omega]
            exact this
          have g0 : (os s).head? = some ((os s)[0]'hl) := by rw [List.head?_eq_getElem?, List.getElem?_eq_getElem hl]
          have g1 : (os s).getLast? = some ((os s)[(os s).length - 1]'(by omega)) := by rw [List.getLast?_eq_getElem?, List.getElem?_eq_getElem (by omega)]
          have hb : ∀ c : UInt8, ((c.toNat : Int) = 45) ↔ c = 45 := fun c => ⟨fun h => by
            apply UInt8.toNat_inj.1
            show c.toNat = 45
            omega, fun h => by rw [h]; rfl⟩
          rw [b0, g0]
          by_cases c4 : (os s)[0]'hl = 45
          · rw [if_pos ((hb _).2 c4), c4, decide_eq_false (show ¬ some (45 : UInt8) ≠ some 45 by decide)]; rfl
          · rw [if_neg (fun h => c4 ((hb _).1 h)), if_pos (by omega), if_pos (by omega), b1, g1, decide_eq_true (show some ((os s)[0]'hl) ≠ some 45 from fun h => c4 (Option.some.inj h)), Bool.true_and]
            congr 1
            rw [Bool.eq_iff_iff, bne_iff_ne, decide_eq_true_iff]
            exact ⟨fun h h2 => h ((hb _).2 (Option.some.inj h2)), fun h h2 => h (by rw [(hb _).1 h2])⟩
        · rw [if_neg c3]
          rw [decide_eq_false c3] at hi
          rw [← hi]; rfl
      · rw [if_neg (by omega), decide_eq_false c2]; rfl
  unfold labB
  rw [h0]
  cases labL (os s) <;> rfl
noncomputable def nameL (l : List UInt8) : Bool := decide (l.length ≤ 60) && (splitL 46 l).all labL
theorem nm_eq (l : List UInt8) : nm l = nameL l := by
  unfold nm nameL
  have := pieces_p 46 l.length ⟨l.toArray⟩ (Nat.le_refl _)
  rw [show os (⟨l.toArray⟩ : ByteArray) = l from rfl] at this
  rw [← this, List.all_map]
  congr 1
  congr 1
  funext s
  exact lab_p s

noncomputable def okP (c i n : Nat) : Prop := (97 ≤ c ∧ c ≤ 122) ∨ (48 ≤ c ∧ c ≤ 57) ∨ (c = 45 ∧ i ≠ 0 ∧ i + 1 ≠ n)
instance (c i n : Nat) : Decidable (okP c i n) := by unfold okP; exact inferInstance
end Go.Proofs.YtfdopmjgiakcdaaDoor.L
namespace Go.Proofs.YtfdopmjgiakcdaaDoor.L
open Go Go.RowKit Go.Proofs.YtfdopmjgiakcdaaDoor.P Go.Proofs.YtfdopmjgiakcdaaDoorW.PrintWords Go.Proofs.YtfdopmjgiakcdaaDoorW.PrintLast
abbrev FT := S27
noncomputable def SF (x : FT) : Prop := (os x.f1).length ≤ 100 ∧ (os x.f2).length ≤ 100 ∧ (os x.f3).length ≤ 100 ∧ (os x.f5).length ≤ 100
noncomputable def turnsF (x : FT) : Bool := (decide (os x.f3 = []) || nm (os x.f3)) && (if os x.f5 = [] then !x.f6 else if x.f6 = true then isPath (os x.f5) else above (os x.f5))
theorem turns_p (x : FT) (hx : SF x) (k : Nat) (hk : 1 ≤ k) : filter_turns.f k x.f0 x.f1 x.f2 x.f3 x.f4 x.f5 x.f6 x.f7 = some (turnsF x) := by
  obtain ⟨m, rfl⟩ : ∃ m, k = m + 1 := ⟨k - 1, by omega⟩
  have hz : x.f5.size ≤ 1000 := by rw [size_os]; have := hx.2.2.2; omega
  have J : ∀ b : Bool, filter_turns.j0 (m + 1) b x.f0 x.f1 x.f2 x.f3 x.f4 x.f5 x.f6 x.f7 = some (!b && (if os x.f5 = [] then !x.f6 else if x.f6 = true then isPath (os x.f5) else above (os x.f5))) := by
    intro b
    rw [filter_turns.j0, path_is, path_may _ _ hz, toList_os]
    simp only [Option.bind_some]
    cases b <;> by_cases h5 : os x.f5 = [] <;> cases x.f6 <;> simp [h5, mayP]
  unfold filter_turns.f turnsF
  rw [name_p, J, toList_os]
  by_cases h3 : os x.f3 = []
  · rw [if_pos h3]; simp [h3]
  · rw [if_neg h3, Option.bind_some, J]; simp [h3]
noncomputable def noneF (x : FT) : Bool := (os x.f3 == []) && (x.f4 == 0 && (os x.f5 == [] && (!x.f6 && (x.f7 == 0))))
noncomputable def mayJ (b : Bool) (x : FT) : Bool :=
  if b = true then noneF x && (isTok (os x.f1) && isVal (os x.f2))
  else if x.f0 = 3 then (os x.f2 == [] && noneF x) && isTok (os x.f1)
  else if x.f0 = 4 then (os x.f1 == [] && os x.f2 == []) && (turnsF x && (decide (0 ≤ x.f4) && (decide (x.f4 ≤ 65535) && (x.f7 == 301 || x.f7 == 302))))
  else if x.f0 = 5 then (os x.f1 == [] && (os x.f2 == [] && (x.f4 == 0 && x.f7 == 0))) && (turnsF x && !(os x.f3 == [] && os x.f5 == []))
  else false
noncomputable def mayF (x : FT) : Bool := mayJ (x.f0 == 1 || x.f0 == 2) x
theorem may_p (x : FT) (hx : SF x) (k : Nat) (hk : 2300 ≤ k) : filter_May.f k x.f0 x.f1 x.f2 x.f3 x.f4 x.f5 x.f6 x.f7 = some (mayF x) := by
  obtain ⟨m, rfl⟩ : ∃ m, k = m + 1 := ⟨k - 1, by omega⟩
  have J : ∀ b : Bool, filter_May.j0 (m + 1) x.f0 b x.f0 x.f1 x.f2 x.f3 x.f4 x.f5 x.f6 x.f7 = some (mayJ b x) := by
    intro b
    rw [filter_May.j0, tok_p _ (by have := hx.1; omega) _ (by omega), val_p _ (by have := hx.2.1; omega) _ (by omega), turns_p x hx _ (by omega)]
    simp only [Option.bind_some, toList_os]
    rw [show (os x.f3 == [] && (x.f4 == 0 && (os x.f5 == [] && (!x.f6 && (x.f7 == 0))))) = noneF x from rfl]
    unfold mayJ
    generalize noneF x = nf
    generalize turnsF x = tf
    generalize os x.f1 = l1
    generalize os x.f2 = l2
    generalize os x.f3 = l3
    generalize os x.f5 = l5
    cases hb : b
    · rw [if_neg (show ¬ (false = true) by decide), if_neg (show ¬ (false = true) by decide)]
      by_cases h3 : x.f0 = 3
      · rw [if_pos h3, if_pos h3]
        cases isTok l1 <;> cases (l2 == []) <;> cases nf <;> rfl
      · rw [if_neg h3, if_neg h3]
        by_cases h4 : x.f0 = 4
        · rw [if_pos h4, if_pos h4]
          by_cases e1 : l1 = [] <;> by_cases e2 : l2 = [] <;> cases tf <;> by_cases e3 : 0 ≤ x.f4 <;> by_cases e4 : x.f4 ≤ 65535 <;> by_cases e5 : x.f7 = 301 <;> simp [e1, e2, e3, e4, e5]
        · rw [if_neg h4, if_neg h4]
          by_cases h5 : x.f0 = 5
          · rw [if_pos h5, if_pos h5]
            cases e : (l1 == [] && (l2 == [] && (x.f4 == 0 && x.f7 == 0))) <;> cases tf <;> cases l3 <;> cases l5 <;> simp
          · rw [if_neg h5, if_neg h5]
    · rw [if_pos rfl, if_pos rfl]
      cases nf <;> cases isTok l1 <;> rfl
  unfold filter_May.f mayF
  rw [J, J]
  by_cases h1 : x.f0 = 1
  · rw [if_pos h1]; simp [h1]
  · rw [if_neg h1, beq_eq_false_iff_ne.2 h1, Bool.false_or]
noncomputable def fewF1 (x : FT) : FT := ⟨x.f0, few x.f1, few x.f2, few x.f3, x.f4, few x.f5, x.f6, x.f7⟩
noncomputable def fewF (l : List FT) : List FT := (l.take 9).map fewF1
theorem rdF (l : List FT) (i : Nat) (h : i < l.length) : rd_T27 l (i : Int) = l[i] := by
  unfold rd_T27
  rw [Int.toNat_natCast, getD_at _ _ h]
theorem fewF_loop (l : List FT) : ∀ (n i k : Nat) (acc : List FT), 9 - i ≤ n → i ≤ 9 → i ≤ l.length → acc.length ≤ 1000 + i → 2 * n + 2 ≤ k → tolllaw07_Few.l0 k l acc (i : Int) = some (acc ++ ((l.drop i).take (9 - i)).map fewF1) := by
  intro n
  induction n with
  | zero =>
    intro i k acc h1 h2 h3 h4 h5
    obtain ⟨k, rfl⟩ : ∃ m, k = m + 2 := ⟨k - 2, by omega⟩
    obtain rfl : i = 9 := by omega
    have e : tolllaw07_Few.j1 (k + 1) l acc ((9 : Nat) : Int) false = some acc := by rw [tolllaw07_Few.j1]; rfl
    have e' : tolllaw07_Few.j1 (k + 1) l acc 9 false = some acc := e
    rw [tolllaw07_Few.l0]
    split <;> simp [e']
  | succ n ih =>
    intro i k acc h1 h2 h3 h4 h5
    obtain ⟨k, rfl⟩ : ∃ m, k = m + 2 := ⟨k - 2, by omega⟩
    have e : tolllaw07_Few.j1 (k + 1) l acc (i : Int) false = some acc := by rw [tolllaw07_Few.j1]; rfl
    rw [tolllaw07_Few.l0]
    by_cases hl : i < l.length
    · rw [if_pos (by omega)]
      by_cases h31 : i < 9
      · rw [show decide ((i : Int) < 9) = true from decide_eq_true (by omega), tolllaw07_Few.j1, if_pos rfl, if_pos (by omega), if_pos (by omega), rdF l i hl, few_eq, Option.bind_some, few_eq, Option.bind_some, few_eq, Option.bind_some, few_eq, Option.bind_some, if_pos (by omega), wrap64_id (by omega) (by omega), show (i : Int) + 1 = ((i + 1 : Nat) : Int) by omega, ih (i + 1) k _ (by omega) (by omega) (by omega) (by rw [List.length_append, List.length_singleton]; omega) (by omega)]
        rw [List.append_assoc, show 9 - i = (9 - (i + 1)) + 1 by omega, List.drop_eq_getElem_cons hl, List.take_succ_cons, List.map_cons]
        rfl
      · obtain rfl : i = 9 := by omega
        rw [show decide (((9 : Nat) : Int) < 9) = false from rfl, e]; rw [Nat.sub_self, List.take_zero]; simp
    · obtain rfl : i = l.length := by omega
      rw [if_neg (by omega), e]; simp
theorem fewF_eq (l : List FT) (k : Nat) (hk : 70 ≤ k) : tolllaw07_Few.f k l = some (fewF l) := by
  unfold tolllaw07_Few.f fewF
  have := fewF_loop l 9 0 k [] (by omega) (by omega) (by omega) (by simp) (by omega)
  simpa using this
theorem fewF1_small (x : FT) : SF (fewF1 x) := ⟨few_len _, few_len _, few_len _, few_len _⟩
theorem fewF_small (l : List FT) : (fewF l).length ≤ 9 ∧ ∀ x ∈ fewF l, SF x := by
  refine ⟨by unfold fewF; rw [List.length_map, List.length_take]; omega, fun x hx => ?_⟩
  obtain ⟨y, _, rfl⟩ := List.mem_map.1 hx
  exact fewF1_small y
end Go.Proofs.YtfdopmjgiakcdaaDoor.L
namespace Go.Proofs.YtfdopmjgiakcdaaDoor.L
open Go Go.RowKit Go.Proofs.YtfdopmjgiakcdaaDoor.P Go.Proofs.YtfdopmjgiakcdaaDoorW.PrintWords Go.Proofs.YtfdopmjgiakcdaaDoorW.PrintLast
noncomputable def turnerF (x : FT) : Bool := x.f0 == 4 || x.f0 == 5
noncomputable def sameB (y x : FT) : Bool := decide (x.f0 = y.f0) && eqN x.f1 y.f1
noncomputable def likeB (y x : FT) : Bool := (turnerF x && turnerF y) || sameB y x
noncomputable def goB : List FT → List FT → Bool
  | pre, [] => decide (pre.length ≤ 8)
  | pre, y :: r => mayF y && (!pre.any (likeB y) && goB (pre ++ [y]) r)
noncomputable def allF (l : List FT) : Bool := goB [] l
theorem may_kind {x : FT} (h : mayF x = true) : 1 ≤ x.f0 ∧ x.f0 ≤ 5 := by
  unfold mayF mayJ at h
  by_cases h1 : (x.f0 == 1 || x.f0 == 2) = true
  · simp only [Bool.or_eq_true, beq_iff_eq] at h1; omega
  rw [if_neg h1] at h
  by_cases h3 : x.f0 = 3
  · omega
  rw [if_neg h3] at h
  by_cases h4 : x.f0 = 4
  · omega
  rw [if_neg h4] at h
  by_cases h5 : x.f0 = 5
  · omega
  rw [if_neg h5] at h
  cases h
theorem turner_p (x : FT) : filter_turner.f x.f0 x.f1 x.f2 x.f3 x.f4 x.f5 x.f6 x.f7 = some (turnerF x) := by
  unfold filter_turner.f turnerF
  by_cases h : x.f0 = 4
  · rw [if_pos h]; simp [h]
  · rw [if_neg h]; simp [h]
theorem like_p (y x : FT) (hy : SF y) (hx : SF x) : likeF y x = some (likeB y x) := by
  unfold likeF likeB sameB
  rw [turner_p, turner_p, Option.bind_some, Option.bind_some, same_p _ _ (by have := hx.1; omega) (by have := hy.1; omega)]
  cases turnerF x <;> cases turnerF y <;> by_cases h : x.f0 = y.f0 <;> simp [h]
theorem likeAny_p (y : FT) (hy : SF y) (l : List FT) (hl : ∀ x ∈ l, SF x) : likeAny y l = some (l.any (likeB y)) := by
  unfold likeAny
  rw [if_pos (List.all_eq_true.2 fun x hx => by rw [like_p y x hy (hl x hx)]; rfl)]
  congr 1
  refine Bool.eq_iff_iff.2 ?_
  rw [List.any_eq_true, List.any_eq_true]
  constructor
  · rintro ⟨x, hx, h⟩
    rw [like_p y x hy (hl x hx)] at h
    exact ⟨x, hx, by simpa using h⟩
  · rintro ⟨x, hx, h⟩
    exact ⟨x, hx, by rw [like_p y x hy (hl x hx), h]; rfl⟩
theorem all_go : ∀ (r pre : List FT) (k : Nat), 2300 ≤ k → (∀ x ∈ pre, SF x) → (∀ x ∈ r, SF x) → filter_All.go k pre r = some (goB pre r) := by
  intro r
  induction r with
  | nil =>
    intro pre k _ _ _
    unfold filter_All.go goB
    congr 1
    exact decide_eq_decide.2 (by omega)
  | cons y r ih =>
    intro pre k hk h1 h2
    have hy := h2 y List.mem_cons_self
    unfold filter_All.go goB
    rw [may_p y hy k hk, Option.bind_some]
    cases mayF y with
    | false => rfl
    | true =>
      rw [if_pos rfl, likeAny_p y hy pre h1, Option.bind_some, Bool.true_and]
      cases pre.any (likeB y) with
      | true => rfl
      | false =>
        rw [if_neg (by decide), ih (pre ++ [y]) k hk (fun x hx => by
          rcases List.mem_append.1 hx with hx | hx
          · exact h1 x hx
          · rw [List.mem_singleton.1 hx]; exact hy) (fun x hx => h2 x (List.mem_cons_of_mem _ hx))]
        rfl
theorem all_f (l : List FT) (k : Nat) (hk : 2300 ≤ k) (h : ∀ x ∈ l, SF x) : filter_All.f k l = some (allF l) := all_go l [] k hk (fun x hx => by cases hx) h
theorem wrapF {i : Nat} (h : i ≤ 100000) : wrap64 ((i : Int) + 1) = ((i + 1 : Nat) : Int) := by rw [wrap64_id (by omega) (by omega)]; omega
end Go.Proofs.YtfdopmjgiakcdaaDoor.L
namespace Go.Proofs.YtfdopmjgiakcdaaDoor.L
open Go Go.RowKit Go.Proofs.YtfdopmjgiakcdaaDoor.P Go.Proofs.YtfdopmjgiakcdaaDoorW.PrintWords Go.Proofs.YtfdopmjgiakcdaaDoorW.PrintLast
noncomputable def becB (f : FT) (pk : Int) (pv s : ByteArray) : ByteArray × Int :=
  if os f.f5 = [] then (s, 0) else if f.f6 = true ∨ pk = 1 then (f.f5, 0) else ((⟨(swapP pk (os pv) (os f.f5) (os s)).1.toArray⟩ : ByteArray), (swapP pk (os pv) (os f.f5) (os s)).2)
theorem bec_p (f : FT) (hf : SF f) (pk : Int) (pv s : ByteArray) (hp : (os pv).length ≤ 100) (hs : (os s).length ≤ 100) (k : Nat) (hk : 3 ≤ k) : filter_becomes.f k f.f0 f.f1 f.f2 f.f3 f.f4 f.f5 f.f6 f.f7 pk pv s = some (becB f pk pv s) := by
  unfold filter_becomes.f becB
  rw [toList_os]
  by_cases h5 : os f.f5 = []
  · rw [if_pos h5, if_pos h5]
  · rw [if_neg h5, if_neg h5]
    by_cases h6 : f.f6 = true
    · rw [if_pos h6, if_pos (.inl h6)]
    · rw [if_neg h6]
      by_cases h1 : pk = 1
      · rw [if_pos h1, if_pos (.inr h1)]
      · rw [if_neg h1, if_neg (fun h => h.elim h6 h1)]
        obtain ⟨t, e, h, g⟩ := path_swap pk pv f.f5 s k hk (by rw [size_os]; omega) (by rw [size_os]; have := hf.2.2.2; omega) (by rw [size_os]; omega)
        rw [h, Option.bind_some, ← g]
theorem swapP_len (pk : Int) (p w s : List UInt8) (hs : s.length ≤ 100) : (swapP pk p w s).1.length ≤ 100 := by
  have ht : (tailP p s).length ≤ 100 := by
    unfold tailP
    repeat' split
    all_goals first | (simp; done) | omega | (rw [List.length_drop]; omega)
  unfold swapP
  repeat' split
  all_goals first | (simp; done) | omega | (rw [List.length_append]; omega)
theorem bec_len (f : FT) (hf : SF f) (pk : Int) (pv s : ByteArray) (hs : (os s).length ≤ 100) : (os (becB f pk pv s).1).length ≤ 100 := by
  unfold becB
  split
  · exact hs
  · split
    · exact hf.2.2.2
    · exact swapP_len _ _ _ _ hs
abbrev St := ByteArray × ByteArray × List PT
noncomputable def stepB (pk : Int) (pv : ByteArray) (f : FT) (st : St) : St × Int :=
  if f.f0 = 1 then ((st.1, st.2.1, setL f.f1 f.f2 st.2.2 false), 0)
  else if f.f0 = 2 then ((st.1, st.2.1, st.2.2 ++ [⟨f.f1, f.f2⟩]), 0)
  else if f.f0 = 3 then ((st.1, st.2.1, st.2.2.filter fun x => !eqN x.f0 f.f1), 0)
  else if f.f0 = 4 then (st, 0)
  else ((if os f.f3 = [] then st.1 else f.f3, (becB f pk pv st.2.1).1, st.2.2), (becB f pk pv st.2.1).2)
theorem step_p (pk : Int) (pv : ByteArray) (f : FT) (st : St) (hf : SF f) (hm : mayF f = true) (hp : (os pv).length ≤ 100) (hs : (os st.2.1).length ≤ 100) {m : Nat} (hl : Small m st.2.2) (hm1 : m ≤ 1000) (k : Nat) (hk : 3 ≤ k) : filter_step.f k pk pv f st = some (stepB pk pv f st) := by
  unfold filter_step.f stepB
  have hkd := may_kind hm
  by_cases h1 : f.f0 = 1
  · rw [if_pos h1, if_pos h1, set_p hf.1 _ hl hm1, Option.bind_some]
  rw [if_neg h1, if_neg h1]
  by_cases h2 : f.f0 = 2
  · rw [if_pos h2, if_pos h2, add_p _ _ hl hm1, Option.bind_some]
  rw [if_neg h2, if_neg h2]
  by_cases h3 : f.f0 = 3
  · rw [if_pos h3, if_pos h3, drop_p hf.1 hl hm1, Option.bind_some]
  rw [if_neg h3, if_neg h3]
  by_cases h4 : f.f0 = 4
  · rw [if_pos h4, if_pos h4]
  rw [if_neg h4, if_neg h4, if_pos (by omega), bec_p f hf pk pv st.2.1 hp hs k hk, Option.bind_some, toList_os]
theorem step_small (pk : Int) (pv : ByteArray) (f : FT) (st : St) (hf : SF f) (hs : (os st.2.1).length ≤ 100) {m : Nat} (hl : Small m st.2.2) : Small (m + 1) (stepB pk pv f st).1.2.2 ∧ (os (stepB pk pv f st).1.2.1).length ≤ 100 := by
  unfold stepB
  split
  · exact ⟨setL_small hf.1 hf.2.1 hl, hs⟩
  split
  · refine ⟨⟨by rw [List.length_append, List.length_singleton]; have := hl.1; omega, fun x hx => ?_⟩, hs⟩
    rcases List.mem_append.1 hx with hx | hx
    · exact hl.2 x hx
    · rw [List.mem_singleton.1 hx]; exact ⟨hf.1, hf.2.1⟩
  split
  · exact ⟨(hl.filter _).mono (by omega), hs⟩
  split
  · exact ⟨hl.mono (by omega), hs⟩
  · exact ⟨hl.mono (by omega), bec_len f hf pk pv _ hs⟩
abbrev DoR := ByteArray × ByteArray × ByteArray × List PT × List PT × Int
noncomputable def errD (e : Int) : DoR := ((⟨#[]⟩ : ByteArray), (⟨#[]⟩ : ByteArray), (⟨#[]⟩ : ByteArray), [], [], e)
noncomputable def goD (pk : Int) (pv m : ByteArray) (q : List PT) : St → List FT → DoR
  | st, [] => if st.2.2.length > 30 then errD 5 else (m, st.1, st.2.1, q, st.2.2, 0)
  | st, f :: r => if (stepB pk pv f st).2 = 0 then goD pk pv m q (stepB pk pv f st).1 r else errD (stepB pk pv f st).2
theorem go_p (pk : Int) (pv m : ByteArray) (q : List PT) (hp : (os pv).length ≤ 100) (k : Nat) (hk : 3 ≤ k) : ∀ (r : List FT) (st : St) (n : Nat), (∀ f ∈ r, SF f ∧ mayF f = true) → Small n st.2.2 → n + r.length ≤ 1000 → (os st.2.1).length ≤ 100 → filter_Do.go k pk pv m q st r = some (goD pk pv m q st r) := by
  intro r
  induction r with
  | nil => intro st n _ _ _ _; unfold filter_Do.go goD errD; rfl
  | cons f r ih =>
    intro st n h1 h2 h3 h4
    rw [List.length_cons] at h3
    obtain ⟨hf, hm⟩ := h1 f List.mem_cons_self
    have hss := step_small pk pv f st hf h4 h2
    unfold filter_Do.go goD
    rw [step_p pk pv f st hf hm hp h4 h2 (by omega) k hk, Option.bind_some]
    by_cases h0 : (stepB pk pv f st).2 = 0
    · rw [if_pos h0, if_pos h0, ih _ (n + 1) (fun f' hf' => h1 f' (List.mem_cons_of_mem _ hf')) hss.1 (by omega) hss.2]
    · rw [if_neg h0, if_neg h0]; rfl
theorem goB_may : ∀ (r pre : List FT), goB pre r = true → ∀ x ∈ r, mayF x = true := by
  intro r
  induction r with
  | nil => intro pre _ x hx; cases hx
  | cons y r ih =>
    intro pre h x hx
    unfold goB at h
    simp only [Bool.and_eq_true] at h
    rcases List.mem_cons.1 hx with rfl | hx
    · exact h.1
    · exact ih _ h.2.2 x hx
theorem allF_may {l : List FT} (h : allF l = true) : ∀ x ∈ l, mayF x = true := goB_may l [] h
noncomputable def doP (l : List FT) (pk : Int) (pv m h p : ByteArray) (q hd : List PT) : DoR := if allF l = true then (if holdsP pk (os pv) (os p) = true then goD pk pv m q (h, p, hd) l else errD 1) else errD 1
theorem do_p (l : List FT) (pk : Int) (pv m h p : ByteArray) (q hd : List PT) (hl : ∀ x ∈ l, SF x) (hl9 : l.length ≤ 500) (hp : (os pv).length ≤ 100) (hs : (os p).length ≤ 100) {n : Nat} (hn : n ≤ 400) (hd1 : Small n hd) (k : Nat) (hk : 2300 ≤ k) : filter_Do.f k l pk pv m h p q hd = some (doP l pk pv m h p q hd) := by
  unfold filter_Do.f doP
  rw [all_f l k hk hl, Option.bind_some]
  cases ha : allF l with
  | false => rfl
  | true =>
    rw [if_pos rfl, if_pos rfl, path_holds _ _ _ k (by omega) (by rw [size_os]; omega), Option.bind_some]
    cases holdsP pk (os pv) (os p) with
    | false => rfl
    | true => rw [if_pos rfl, if_pos rfl, go_p pk pv m q hp k (by omega) l (h, p, hd) n (fun f hf => ⟨hl f hf, allF_may ha f hf⟩) hd1 (by omega) hs]
theorem allF_one (x : FT) : allF [x] = mayF x := by unfold allF goB goB; simp
theorem filter_awake (k : Nat) (hk : 3000 ≤ k) : tolllaw07_awake.f k = some true := by
  have sm : Small 0 ([] : List PT) := ⟨Nat.le_refl _, fun x hx => by cases hx⟩
  have s1 : ∀ x : FT, (decide ((os x.f1).length ≤ 100) && (decide ((os x.f2).length ≤ 100) && (decide ((os x.f3).length ≤ 100) && decide ((os x.f5).length ≤ 100)))) = true → ∀ y ∈ [x], SF y := fun x h y hy => by
    rw [List.mem_singleton.1 hy]
    simpa [SF] using h
  unfold tolllaw07_awake.f
  rw [do_p _ _ _ _ _ _ _ _ (s1 _ (by decide)) (by decide) (by decide) (by decide) (by decide) sm k (by omega), Option.bind_some]
  rw [do_p _ _ _ _ _ _ _ _ (s1 _ (by decide)) (by decide) (by decide) (by decide) (by decide) sm k (by omega), Option.bind_some]
  have d1 : doP [(⟨1, (⟨#[120]⟩ : ByteArray), (⟨#[49]⟩ : ByteArray), (⟨#[]⟩ : ByteArray), 0, (⟨#[]⟩ : ByteArray), false, 0⟩ : FT)] 2 (⟨#[47, 97]⟩ : ByteArray) (⟨#[]⟩ : ByteArray) (⟨#[]⟩ : ByteArray) (⟨#[47, 97]⟩ : ByteArray) [] [] = ((⟨#[]⟩ : ByteArray), (⟨#[]⟩ : ByteArray), (⟨#[47, 97]⟩ : ByteArray), [], [(⟨(⟨#[120]⟩ : ByteArray), (⟨#[49]⟩ : ByteArray)⟩ : PT)], 0) := by
    unfold doP
    rw [if_pos (by decide), if_pos (by decide)]
    rfl
  have d2 : doP [(⟨5, (⟨#[]⟩ : ByteArray), (⟨#[]⟩ : ByteArray), (⟨#[]⟩ : ByteArray), 0, (⟨#[47, 120]⟩ : ByteArray), false, 0⟩ : FT)] 2 (⟨#[47, 97]⟩ : ByteArray) (⟨#[]⟩ : ByteArray) (⟨#[]⟩ : ByteArray) (⟨#[47, 97, 47, 98]⟩ : ByteArray) [] [] = ((⟨#[]⟩ : ByteArray), (⟨#[]⟩ : ByteArray), (⟨#[47, 120, 47, 98]⟩ : ByteArray), [], [], 0) := by
    unfold doP
    rw [if_pos (by decide), if_pos (by decide)]
    rfl
  rw [d1, d2]
  have d3 : filter_Away.f k (([(⟨4, (⟨#[]⟩ : ByteArray), (⟨#[]⟩ : ByteArray), (⟨#[98, 46, 116, 101, 115, 116]⟩ : ByteArray), 0, (⟨#[]⟩ : ByteArray), false, 301⟩ : FT)] : List FT)) 2 (⟨#[47, 97]⟩ : ByteArray) (⟨#[]⟩ : ByteArray) (⟨#[]⟩ : ByteArray) (⟨#[47, 97]⟩ : ByteArray) ([] : List PT) ([] : List PT) true = some (301, (⟨#[104, 116, 116, 112, 115, 58, 47, 47]⟩ : ByteArray) ++ (⟨#[98, 46, 116, 101, 115, 116]⟩ : ByteArray) ++ (⟨#[47, 97]⟩ : ByteArray), 0) := by
    have hn : nm [98, 46, 116, 101, 115, 116] = true := by rw [nm_eq]; decide
    have ha : allF [(⟨4, (⟨#[]⟩ : ByteArray), (⟨#[]⟩ : ByteArray), (⟨#[98, 46, 116, 101, 115, 116]⟩ : ByteArray), 0, (⟨#[]⟩ : ByteArray), false, 301⟩ : FT)] = true := by
      rw [allF_one]
      unfold mayF mayJ turnsF
      simp only [os, hn]
      decide
    obtain ⟨m, rfl⟩ : ∃ m, k = m + 5 := ⟨k - 5, by omega⟩
    unfold filter_Away.f
    rw [all_f _ _ (by omega) (s1 _ (by decide)), ha, Option.bind_some, if_pos rfl, path_holds _ _ _ _ (by omega) (by decide), Option.bind_some]
    rw [show holdsP 2 (os (⟨#[47, 97]⟩ : ByteArray)) (os (⟨#[47, 97]⟩ : ByteArray)) = true by decide]
    rw [filter_Away.j0, if_neg (by decide)]
    rw [show slices_IndexFunc_with_filter_Away_1.f [(⟨4, (⟨#[]⟩ : ByteArray), (⟨#[]⟩ : ByteArray), (⟨#[98, 46, 116, 101, 115, 116]⟩ : ByteArray), 0, (⟨#[]⟩ : ByteArray), false, 301⟩ : FT)] = some 0 from rfl, Option.bind_some, if_neg (by decide), if_pos (by decide), if_pos (by decide), if_pos rfl]
    rw [show rd_T27 [(⟨4, (⟨#[]⟩ : ByteArray), (⟨#[]⟩ : ByteArray), (⟨#[98, 46, 116, 101, 115, 116]⟩ : ByteArray), 0, (⟨#[]⟩ : ByteArray), false, 301⟩ : FT)] 0 = (⟨4, (⟨#[]⟩ : ByteArray), (⟨#[]⟩ : ByteArray), (⟨#[98, 46, 116, 101, 115, 116]⟩ : ByteArray), 0, (⟨#[]⟩ : ByteArray), false, 301⟩ : FT) from rfl]
    dsimp only
    rw [filter_Away.j1, if_neg (by rw [toList_os]; decide), filter_Away.j2, if_pos (by decide), if_pos (show (0 : Int) = 0 from rfl), filter_Away.j3, if_neg (by decide)]
    have hb := bec_p (⟨4, (⟨#[]⟩ : ByteArray), (⟨#[]⟩ : ByteArray), (⟨#[98, 46, 116, 101, 115, 116]⟩ : ByteArray), 0, (⟨#[]⟩ : ByteArray), false, 301⟩ : FT) (s1 _ (by decide) _ List.mem_cons_self) 2 (⟨#[47, 97]⟩ : ByteArray) (⟨#[47, 97]⟩ : ByteArray) (by decide) (by decide) (m + 1) (by omega)
    dsimp only at hb
    rw [hb, Option.bind_some]
    rfl
  rw [d3]
  simp only [Option.bind_some]
  rw [same4 _ k (by decide) (by omega), Option.bind_some]
  simp only [toList_os, if_true]
  rw [if_pos (by decide)]
end Go.Proofs.YtfdopmjgiakcdaaDoor.L
