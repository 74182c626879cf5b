import Derived.Test.YtompldnifiieaaaDoorPx0
import Derived.Test.YtompldnifiieaaaDoorPx1
import Derived.Test.YtompldnifiieaaaDoorPx2
import Derived.Test.YtompldnifiieaaaDoorPx3
import Derived.Test.YtompldnifiieaaaDoorPx4
import Derived.Test.YtompldnifiieaaaDoorPx5
import Derived.Test.YtompldnifiieaaaDoorPx6
import Derived.Test.YtompldnifiieaaaDoorPx7
import Derived.Test.YtompldnifiieaaaDoorWWords
import Derived.Laws.Strings
import Derived.Laws.Runes
namespace Go.Proofs.YtompldnifiieaaaDoor.L
open Go Go.RowKit Go.Proofs.YtompldnifiieaaaDoorW.PrintWords

abbrev os (s : ByteArray) : List UInt8 := s.data.toList

theorem toList_os (s : ByteArray) : s.toList = os s := ByteArray.toList_eq s
theorem size_os (s : ByteArray) : s.size = (os s).length := (Array.length_toList (xs := s.data)).symm
theorem os_append (s t : ByteArray) : os (s ++ t) = os s ++ os t := by
  simp [os, ByteArray.data_append]
theorem os_extract (s : ByteArray) (a b : Nat) : os (s.extract a b) = ((os s).drop a).take (b - a) := by
  simp [os, ByteArray.data_extract, Array.toList_extract, List.extract]
theorem bt_os (s : ByteArray) (i : Nat) : bt s (i : Int) = (((os s)[i]?.getD 0).toNat : Int) := by
  unfold bt
  have hs := size_os s
  by_cases h : ((i : Nat) : Int).toNat < s.size
  · rw [dif_pos h]
    have h' : i < (os s).length := by simp at h; omega
    rw [List.getElem?_eq_getElem h']
    rfl
  · rw [dif_neg h]
    have h' : (os s).length ≤ i := by simp at h; omega
    rw [List.getElem?_eq_none h']
    rfl
theorem wrap64_id {x : Int} (h1 : -9223372036854775808 ≤ x) (h2 : x ≤ 9223372036854775807) : wrap64 x = x := by unfold wrap64; omega
end Go.Proofs.YtompldnifiieaaaDoor.L
namespace Go.Proofs.YtompldnifiieaaaDoor.L
open Go Go.RowKit Go.Proofs.YtompldnifiieaaaDoor.P Go.Proofs.YtompldnifiieaaaDoorW.PrintWords Go.Proofs.YtompldnifiieaaaDoorW.PrintLast

noncomputable def pok (c : UInt8) : Bool := decide (33 ≤ c.toNat) && (decide (c.toNat ≤ 126) && (c.toNat != 63 && c.toNat != 35))
noncomputable def isPath (l : List UInt8) : Bool := l.all pok && (l.head? == some 47 && decide (l.length ≤ 60))
noncomputable def above (l : List UInt8) : Bool := isPath l && (l == [47] || l.getLast? != some 47)
noncomputable def mayP (k : Int) (l : List UInt8) : Bool := (k == 1 && isPath l) || (k == 2 && above l)
noncomputable def holdsP (k : Int) (p s : List UInt8) : Bool := mayP k p && isPath s && (p == s || (k == 2 && (p == [47] || (p ++ [47]).isPrefixOf s)))

theorem hasPrefix (s p : ByteArray) : strings_HasPrefix.f s p = some ((os p).isPrefixOf (os s)) := by
  have hs := size_os s
  have hp := size_os p
  unfold strings_HasPrefix.f stringslite_HasPrefix.f
  by_cases h : (s.size : Int) ≥ (p.size : Int)
  · rw [if_pos h, if_pos (by omega), if_pos (by omega), Option.bind_some]
    congr 1
    rw [toList_os, toList_os, os_extract, List.drop_zero, Nat.sub_zero, hp, Bool.eq_iff_iff, beq_iff_eq, List.isPrefixOf_iff_prefix]
    constructor
    · intro h
      rw [← h]
      exact List.take_prefix _ _
    · intro h
      exact (List.prefix_iff_eq_take.1 h).symm
  · rw [if_neg h, Option.bind_some]
    congr 1
    symm
    rw [Bool.eq_false_iff]
    intro hc
    have := (List.isPrefixOf_iff_prefix.1 hc).length_le
    omega
theorem hasSuffix (s p : ByteArray) (hl : s.size ≤ 9223372036854775807) : strings_HasSuffix.f s p = some ((os p).isSuffixOf (os s)) := by
  have hs := size_os s
  have hp := size_os p
  unfold strings_HasSuffix.f stringslite_HasSuffix.f
  by_cases h : (s.size : Int) ≥ (p.size : Int)
  · have hw : wrap64 ((s.size : Int) - (p.size : Int)) = ((s.size - p.size : Nat) : Int) := by rw [wrap64_id (by omega) (by omega)]; omega
    rw [if_pos h, hw, if_pos (by omega), if_pos (by omega), Option.bind_some]
    congr 1
    rw [toList_os, toList_os, os_extract, Int.toNat_natCast, Bool.eq_iff_iff, beq_iff_eq, List.isSuffixOf_iff_suffix, List.take_of_length_le (by simp)]
    rw [List.suffix_iff_eq_drop, ← hs, ← hp]
    exact eq_comm
  · rw [if_neg h, Option.bind_some]
    congr 1
    symm
    rw [Bool.eq_false_iff]
    intro hc
    have := (List.isSuffixOf_iff_suffix.1 hc).length_le
    omega

theorem path_is (s : ByteArray) : path_Is.f s = some (isPath (os s)) := by
  have hs := size_os s
  unfold path_Is.f isPath
  by_cases h : (os s).all path_Is.ok = true
  · rw [if_pos h, hasPrefix, Option.bind_some]
    have h2 : (os s).all pok = true := h
    rw [h2]
    have h3 : (os (⟨#[47]⟩ : ByteArray)).isPrefixOf (os s) = ((os s).head? == some 47) := by
      show [47].isPrefixOf (os s) = _
      cases os s with
      | nil => rfl
      | cons a r =>
        show (47 == a && true) = (some a == some 47)
        by_cases ha : a = 47
        · rw [ha]; rfl
        · rw [Bool.and_true, beq_eq_false_iff_ne.2 (Ne.symm ha), beq_eq_false_iff_ne.2 (fun h => ha (Option.some.inj h))]
    rw [h3]
    cases (os s).head? == some 47
    · rfl
    · rw [if_pos rfl, Bool.true_and, Bool.true_and]
      congr 1
      exact decide_eq_decide.2 (by omega)
  · rw [if_neg h]
    have h2 : (os s).all pok = false := by rw [Bool.eq_false_iff]; exact h
    rw [h2]
    rfl

theorem path_above_f (s : ByteArray) (hl : s.size ≤ 1000) : path_above.f s = some (above (os s)) := by
  unfold path_above.f above
  rw [path_is, Option.bind_some]
  cases h : isPath (os s)
  · rw [if_neg (by simp)]; rfl
  · rw [if_pos rfl, toList_os]
    by_cases h2 : os s = [47]
    · rw [if_pos h2, h2]; rfl
    · rw [if_neg h2, hasSuffix _ _ (by omega), Option.bind_some]
      have : (os s == [47]) = false := by simpa using h2
      rw [this, Bool.true_and, Bool.false_or]
      congr 1
      show (![47].isSuffixOf (os s)) = (!((os s).getLast? == some 47))
      congr 1
      rw [Bool.eq_iff_iff, List.isSuffixOf_iff_suffix, beq_iff_eq]
      constructor
      · rintro ⟨t, ht⟩
        rw [← ht]; simp
      · intro hg
        exact ⟨(os s).dropLast, by
          obtain ⟨l, hl⟩ := List.getLast?_eq_some_iff.1 hg
          rw [hl]; simp⟩
theorem path_may (k : Int) (s : ByteArray) (hl : s.size ≤ 1000) : path_May.f k s = some (mayP k (os s)) := by
  unfold path_May.f mayP
  rw [path_is, path_above_f s hl]
  by_cases h1 : k = 1
  · subst h1
    cases isPath (os s) <;> rfl
  · rw [if_neg h1, beq_eq_false_iff_ne.2 h1]
    by_cases h2 : k = 2
    · subst h2; rfl
    · rw [if_neg h2, beq_eq_false_iff_ne.2 h2]; rfl
theorem path_holds (k : Int) (p s : ByteArray) (n : Nat) (hn : 1 ≤ n) (hp : p.size ≤ 1000) : path_Holds.f n k p s = some (holdsP k (os p) (os s)) := by
  have hps := size_os p
  unfold path_Holds.f holdsP
  obtain ⟨n, rfl⟩ : ∃ m, n = m + 1 := ⟨n - 1, by omega⟩
  rw [path_may k p hp, Option.bind_some, path_is, Option.bind_some]
  simp only [path_Holds.j0]
  cases h1 : mayP k (os p)
  · rw [if_neg (by simp), if_pos trivial]; rfl
  rw [if_pos rfl]
  cases h2 : isPath (os s)
  · rfl
  show (if false = true then _ else _) = _
  rw [if_neg (by simp), toList_os, toList_os]
  by_cases h3 : os p = os s
  · rw [if_pos h3, h3]; simp
  rw [if_neg h3, beq_eq_false_iff_ne.2 h3]
  by_cases h4 : k = 2
  · subst h4
    rw [if_pos rfl]
    by_cases h5 : os p = [47]
    · rw [if_pos h5, h5]; rfl
    · rw [if_neg h5, if_pos (by omega), hasPrefix, Option.bind_some, os_append, beq_eq_false_iff_ne.2 h5]
      rfl
  · rw [if_neg h4, beq_eq_false_iff_ne.2 h4]; rfl
end Go.Proofs.YtompldnifiieaaaDoor.L
namespace Go.Proofs.YtompldnifiieaaaDoor.L
open Go Go.RowKit Go.Proofs.YtompldnifiieaaaDoor.P Go.Proofs.YtompldnifiieaaaDoorW.PrintWords Go.Proofs.YtompldnifiieaaaDoorW.PrintLast

abbrev PT := S49
noncomputable def nb (s : ByteArray) : List UInt8 := (os s).map dns_Fold.b
noncomputable def eqN (a b : ByteArray) : Bool := nb a == nb b
noncomputable def Small (m : Nat) (l : List PT) : Prop := l.length ≤ m ∧ ∀ x ∈ l, (os x.f0).length ≤ 100 ∧ (os x.f1).length ≤ 100
theorem Small.mono {m m' : Nat} {l : List PT} (h : Small m l) (hm : m ≤ m') : Small m' l := ⟨Nat.le_trans h.1 hm, h.2⟩
noncomputable def few (s : ByteArray) : ByteArray := if s.size > 100 then s.extract 0 100 else s
theorem few_eq (s : ByteArray) : tolllaw01_Few.f s = some (few s) := by
  unfold tolllaw01_Few.f few
  by_cases h : s.size > 100
  · rw [if_pos (by omega), if_pos (by decide), if_pos (by omega), if_pos h]
  · rw [if_neg (by omega), if_neg h]
theorem few_len (s : ByteArray) : (os (few s)).length ≤ 100 := by
  have hs := size_os s
  unfold few
  by_cases h : s.size > 100
  · rw [if_pos h, os_extract, List.length_take]; omega
  · rw [if_neg h]; omega
noncomputable def few1 (x : PT) : PT := ⟨few x.f0, few x.f1⟩
noncomputable def fewL (l : List PT) : List PT := (l.take 31).map few1
theorem rd_at (l : List PT) (i : Nat) (h : i < l.length) : rd_T49 l (i : Int) = l[i] := by
  unfold rd_T49
  rw [Int.toNat_natCast, getD_at _ _ h]
theorem fewL_loop (l : List PT) : ∀ (n i k : Nat) (acc : List PT), 31 - i ≤ n → i ≤ 31 → i ≤ l.length → acc.length ≤ 1000 + i → 2 * n + 2 ≤ k → tolllaw05_Few.l0 k l acc (i : Int) = some (acc ++ ((l.drop i).take (31 - i)).map few1) := by
  intro n
  induction n with
  | zero =>
    intro i k acc h1 h2 h3 h4 h5
    obtain ⟨k, rfl⟩ : ∃ m, k = m + 2 := ⟨k - 2, by omega⟩
    obtain rfl : i = 31 := by omega
    have e : tolllaw05_Few.j1 (k + 1) l acc ((31 : Nat) : Int) false = some acc := by rw [tolllaw05_Few.j1]; rfl
    have e' : tolllaw05_Few.j1 (k + 1) l acc 31 false = some acc := e
    rw [tolllaw05_Few.l0]
    split <;> simp [e']
  | succ n ih =>
    intro i k acc h1 h2 h3 h4 h5
    obtain ⟨k, rfl⟩ : ∃ m, k = m + 2 := ⟨k - 2, by omega⟩
    have e : tolllaw05_Few.j1 (k + 1) l acc (i : Int) false = some acc := by rw [tolllaw05_Few.j1]; rfl
    rw [tolllaw05_Few.l0]
    by_cases hl : i < l.length
    · rw [if_pos (by omega)]
      by_cases h31 : i < 31
      · rw [show decide ((i : Int) < 31) = true from decide_eq_true (by omega), tolllaw05_Few.j1, if_pos rfl, if_pos (by omega), if_pos (by omega), rd_at l i hl, few_eq, Option.bind_some, few_eq, Option.bind_some, if_pos (by omega), wrap64_id (by omega) (by omega), show (i : Int) + 1 = ((i + 1 : Nat) : Int) by omega, ih (i + 1) k _ (by omega) (by omega) (by omega) (by rw [List.length_append, List.length_singleton]; omega) (by omega)]
        rw [List.append_assoc, show 31 - i = (31 - (i + 1)) + 1 by omega, List.drop_eq_getElem_cons hl, List.take_succ_cons, List.map_cons]
        rfl
      · obtain rfl : i = 31 := by omega
        rw [show decide (((31 : Nat) : Int) < 31) = false from rfl, e]; rw [Nat.sub_self, List.take_zero]; simp
    · obtain rfl : i = l.length := by omega
      rw [if_neg (by omega), e]; simp
theorem fewL_eq (l : List PT) (k : Nat) (hk : 70 ≤ k) : tolllaw05_Few.f k l = some (fewL l) := by
  unfold tolllaw05_Few.f fewL
  have := fewL_loop l 31 0 k [] (by omega) (by omega) (by omega) (by simp) (by omega)
  simpa using this
theorem fewL_small (l : List PT) : Small 31 (fewL l) := by
  refine ⟨by unfold fewL; rw [List.length_map, List.length_take]; omega, fun x hx => ?_⟩
  obtain ⟨y, _, rfl⟩ := List.mem_map.1 hx
  exact ⟨few_len _, few_len _⟩
theorem fold_p (s : ByteArray) (h : (os s).length ≤ 1000) : dns_Fold.f s = some ⟨(nb s).toArray⟩ := by
  have hs := size_os s
  unfold dns_Fold.f
  rw [if_pos (by omega)]
  rfl
theorem same_p (a b : ByteArray) (ha : (os a).length ≤ 1000) (hb : (os b).length ≤ 1000) : pairs_Same.f a b = some (eqN a b) := by
  unfold pairs_Same.f eqN
  rw [fold_p a ha, Option.bind_some, fold_p b hb, Option.bind_some, toList_os, toList_os]
theorem idxI_two {α : Type} (p : α → Bool) (l : List α) : (idxI p l = -1 ∧ ∀ x ∈ l, p x = false) ∨ ∃ (k : Nat) (hk : k < l.length), idxI p l = (k : Int) ∧ p (l[k]'hk) = true ∧ ∀ j (hj : j < k), p (l[j]'(by omega)) = false := by
  by_cases h : l.any p = true
  · have hlt : l.findIdx p < l.length := List.findIdx_lt_length_of_exists (by obtain ⟨x, hx, hp⟩ := List.any_eq_true.1 h; exact ⟨x, hx, hp⟩)
    have h2 := (List.findIdx_eq hlt).1 rfl
    refine .inr ⟨_, hlt, by unfold idxI; rw [if_pos h], h2.1, fun j hj => by simpa using h2.2 j hj⟩
  · refine .inl ⟨by unfold idxI; rw [if_neg h], fun x hx => ?_⟩
    have h' : l.any p = false := by simpa using h
    simpa using List.any_eq_false.1 h' x hx
theorem getI_find (q : ByteArray → ByteArray → Option Bool) (l : List PT) (n : ByteArray) : getI q l n = match l.find? (pOf q n) with | none => ((⟨#[]⟩ : ByteArray), false) | some x => (x.f1, true) := by
  unfold getI
  rcases idxI_two (pOf q n) l with ⟨e, ha⟩ | ⟨k, hk, e, h1, h0⟩
  · rw [e, if_pos (by decide), List.find?_eq_none.2 (fun x hx => by rw [ha x hx]; decide)]
  · rw [e, if_neg (by omega), rd_at l k hk]
    have : l.find? (pOf q n) = some (l[k]'hk) := by
      rw [List.find?_eq_some_iff_getElem]
      exact ⟨h1, k, hk, rfl, fun j hj => by rw [h0 j hj]; rfl⟩
    rw [this]
theorem find_congr {α : Type} {p q : α → Bool} : ∀ {l : List α}, (∀ x ∈ l, p x = q x) → l.find? p = l.find? q
  | [], _ => rfl
  | a :: r, h => by rw [List.find?_cons, List.find?_cons, h a List.mem_cons_self, find_congr (fun x hx => h x (List.mem_cons_of_mem _ hx))]
theorem wrapS {i : Nat} (h : i ≤ 100000) : wrap64 ((i : Int) + 1) = ((i + 1 : Nat) : Int) := by rw [wrap64_id (by omega) (by omega)]; omega
end Go.Proofs.YtompldnifiieaaaDoor.L
namespace Go.Proofs.YtompldnifiieaaaDoor.L
open Go Go.RowKit Go.Proofs.YtompldnifiieaaaDoor.P Go.Proofs.YtompldnifiieaaaDoorW.PrintWords Go.Proofs.YtompldnifiieaaaDoorW.PrintLast

noncomputable def mF (fold : Bool) (x n : ByteArray) : Bool := if fold = true then eqN x n else os x == os n
noncomputable def holdsOne (fold : Bool) (l : List PT) (y : PT) : Bool := match l.find? (fun x => mF fold x.f0 y.f0) with | none => false | some x => os x.f1 == os y.f1
theorem holdsQ_p (fold : Bool) (a b : ByteArray) (ha : (os a).length ≤ 1000) (hb : (os b).length ≤ 1000) : holdsQ fold a b = some (mF fold a b) := by
  unfold holdsQ mF
  cases fold with
  | true => rw [if_pos rfl, if_pos rfl, same_p a b ha hb]
  | false => rw [if_neg (by decide), if_neg (by decide), toList_os, toList_os]
theorem holds_p (fold : Bool) {m m' : Nat} {a l : List PT} (ha : Small m a) (hl : Small m' l) : pairs_Holds.f a l fold = some (a.all (holdsOne fold l)) := by
  unfold pairs_Holds.f
  rw [if_pos (show (a.all fun x => qAll (holdsQ fold) l x.f0) = true from List.all_eq_true.2 fun y hy => show qAll (holdsQ fold) l y.f0 = true from List.all_eq_true.2 fun x hx => by rw [holdsQ_p fold _ _ (by have := (hl.2 x hx).1; omega) (by have := (ha.2 y hy).1; omega)]; rfl)]
  congr 1
  rw [Bool.eq_iff_iff, List.all_eq_true, List.all_eq_true]
  have : ∀ y ∈ a, holdsX fold l y = holdsOne fold l y := fun y hy => by
    unfold holdsX holdsOne
    rw [getI_find, find_congr (q := fun x : PT => mF fold x.f0 y.f0) (fun x hx => by
      unfold pOf
      rw [holdsQ_p fold _ _ (by have := (hl.2 x hx).1; omega) (by have := (ha.2 y hy).1; omega)]
      cases mF fold x.f0 y.f0 <;> rfl)]
    cases l.find? (fun x => mF fold x.f0 y.f0) with
    | none => rfl
    | some x => simp only [Bool.true_and, toList_os]
  exact ⟨fun h y hy => by rw [← this y hy]; exact h y hy, fun h y hy => by rw [this y hy]; exact h y hy⟩
end Go.Proofs.YtompldnifiieaaaDoor.L
namespace Go.Proofs.YtompldnifiieaaaDoor.L
open Go Go.RowKit Go.Proofs.YtompldnifiieaaaDoor.P Go.Proofs.YtompldnifiieaaaDoorW.PrintWords Go.Proofs.YtompldnifiieaaaDoorW.PrintLast

noncomputable def marks : List UInt8 := [33, 35, 36, 37, 38, 39, 42, 43, 45, 46, 94, 95, 96, 124, 126]
noncomputable def tok (c : UInt8) : Bool := (decide (97 ≤ c.toNat ||| 32) && decide (c.toNat ||| 32 ≤ 122)) || ((decide (48 ≤ c.toNat) && decide (c.toNat ≤ 57)) || marks.any (· == c))
theorem bits_or : ∀ n : Fin 256, Go.bits .or .u8 ((n : Nat) : Int) 32 = (((n : Nat) ||| 32 : Nat) : Int) := by decide +kernel
theorem bits_or' (c : UInt8) : Go.bits .or .u8 ((c.toNat : Nat) : Int) 32 = ((c.toNat ||| 32 : Nat) : Int) := bits_or ⟨c.toNat, c.toNat_lt⟩
noncomputable def isTok (l : List UInt8) : Bool := l.all tok && (decide (l ≠ []) && decide (l.length ≤ 40))
theorem bt_c {s : ByteArray} {i : Nat} (h : i < (os s).length) : bt s (i : Int) = (((os s)[i]'h).toNat : Int) := by
  rw [bt_os, List.getElem?_eq_getElem h]; rfl
theorem fin_tok (s : ByteArray) : (if os s = ([] : List UInt8) then (some false : Option Bool) else some (decide ((s.size : Int) ≤ 40))) = some (decide (os s ≠ []) && decide ((os s).length ≤ 40)) := by
  have hsz := size_os s
  by_cases h : os s = []
  · rw [if_pos h, h]; rfl
  · rw [if_neg h, show decide (os s ≠ []) = true from decide_eq_true h, Bool.true_and]
    congr 1
    rw [decide_eq_decide]; omega
theorem tok_p_loop (s : ByteArray) (hs : (os s).length ≤ 1000) : ∀ (n i k : Nat), (os s).length - i ≤ n → i ≤ (os s).length → n + 1 ≤ k → pairs_Token.l0 k s (s.size : Int) (i : Int) = some (((os s).drop i).all tok && (decide (os s ≠ []) && decide ((os s).length ≤ 40))) := by
  have hsz := size_os s
  intro n
  induction n with
  | zero =>
    intro i k h1 h2 h3
    obtain ⟨k, rfl⟩ : ∃ m, k = m + 1 := ⟨k - 1, by omega⟩
    rw [pairs_Token.l0, if_neg (by omega), List.drop_eq_nil_of_le (by omega), toList_os, fin_tok]; rfl
  | succ n ih =>
    intro i k h1 h2 h3
    obtain ⟨k, rfl⟩ : ∃ m, k = m + 1 := ⟨k - 1, by omega⟩
    by_cases hi : i < (os s).length
    · rw [pairs_Token.l0, if_pos (by omega), if_pos (by omega), if_pos (by omega), bt_c hi, bits_or', wrapS (by omega), ih (i + 1) k (by omega) (by omega) (by omega), List.drop_eq_getElem_cons hi, List.all_cons]
      generalize (os s)[i]'hi = c
      rw [Bool.and_assoc]
      generalize (((os s).drop (i + 1)).all tok && (decide (os s ≠ []) && decide ((os s).length ≤ 40))) = rest
      have hf : ∀ c : UInt8, strings_IndexByte.f ⟨#[33, 35, 36, 37, 38, 39, 42, 43, 45, 46, 94, 95, 96, 124, 126]⟩ ((c.toNat : Nat) : Int) = some (firstIdx ⟨#[33, 35, 36, 37, 38, 39, 42, 43, 45, 46, 94, 95, 96, 124, 126]⟩ c) := fun c => by
        unfold strings_IndexByte.f stringslite_IndexByte.f
        rw [Option.bind_some, Int.toNat_natCast, show c.toNat.toUInt8 = c from UInt8.ofNat_toNat]
      have hm := firstIdx_nonneg ⟨#[33, 35, 36, 37, 38, 39, 42, 43, 45, 46, 94, 95, 96, 124, 126]⟩ c
      have hmm : (⟨#[33, 35, 36, 37, 38, 39, 42, 43, 45, 46, 94, 95, 96, 124, 126]⟩ : ByteArray).data.toList = marks := rfl
      rw [hmm] at hm
      have ht : tok c = ((decide (97 ≤ c.toNat ||| 32) && decide (c.toNat ||| 32 ≤ 122)) || ((decide (48 ≤ c.toNat) && decide (c.toNat ≤ 57)) || marks.any (· == c))) := rfl
      rw [ht, ← hm, hf]
      simp only [Option.bind_some]
      generalize firstIdx ⟨#[33, 35, 36, 37, 38, 39, 42, 43, 45, 46, 94, 95, 96, 124, 126]⟩ c = x
      generalize c.toNat ||| 32 = y
      generalize c.toNat = z
      by_cases a1 : (97 : Int) ≤ (y : Int) <;> by_cases a2 : (y : Int) ≤ 122 <;> by_cases a3 : (48 : Int) ≤ (z : Int) <;> by_cases a4 : (z : Int) ≤ 57 <;> by_cases a5 : 0 ≤ x <;> simp [a1, a2, a3, a4, a5, ge_iff_le] <;> omega
    · rw [pairs_Token.l0, if_neg (by omega), List.drop_eq_nil_of_le (by omega), toList_os, fin_tok]; rfl
theorem tok_p (s : ByteArray) (hs : (os s).length ≤ 1000) (k : Nat) (hk : 1100 ≤ k) : pairs_Token.f k s = some (isTok (os s)) := by
  have := tok_p_loop s hs (os s).length 0 k (by omega) (by omega) (by omega)
  rw [List.drop_zero] at this
  exact this
noncomputable def isVal (l : List UInt8) : Bool := l.all (fun c => decide (32 ≤ c.toNat) && decide (c.toNat ≤ 126)) && (decide (l.length ≤ 40) && (decide (l.head? ≠ some 32) && decide (l.getLast? ≠ some 32)))
theorem trimL (c : UInt8) : ∀ (n k : Nat) (s : ByteArray), (os s).length ≤ n → n + 1 ≤ k → ∃ t, strings_trimLeftByte.l0 k s (c.toNat : Int) = some t ∧ os t = (os s).dropWhile (· == c) := by
  intro n
  induction n with
  | zero =>
    intro k s h1 h2
    have hs := size_os s
    obtain ⟨k, rfl⟩ : ∃ m, k = m + 1 := ⟨k - 1, by omega⟩
    have h0 : os s = [] := List.eq_nil_of_length_eq_zero (by omega)
    rw [strings_trimLeftByte.l0, if_neg (by omega)]
    exact ⟨s, rfl, by rw [h0]; rfl⟩
  | succ n ih =>
    intro k s h1 h2
    have hs := size_os s
    obtain ⟨k, rfl⟩ : ∃ m, k = m + 1 := ⟨k - 1, by omega⟩
    by_cases hp : 0 < (os s).length
    · have hb : bt s 0 = (((os s)[0]'hp).toNat : Int) := bt_c hp
      rw [strings_trimLeftByte.l0, if_pos (by omega), if_pos (by omega), hb]
      obtain ⟨a, r, e⟩ : ∃ a r, os s = a :: r := by
        cases h : os s with
        | nil => rw [h] at hp; simp at hp
        | cons a r => exact ⟨a, r, rfl⟩
      have ha : (os s)[0]'hp = a := by simp [e]
      rw [ha]
      by_cases hc : a = c
      · subst hc
        rw [if_pos rfl, if_pos (by omega)]
        have ht : os (s.extract 1 s.size) = r := by rw [os_extract, e, List.drop_one, List.tail_cons, List.take_of_length_le (by rw [hs, e, List.length_cons]; omega)]
        obtain ⟨t, h3, h4⟩ := ih k (s.extract 1 s.size) (by rw [ht]; rw [e, List.length_cons] at h1; omega) (by omega)
        exact ⟨t, h3, by rw [h4, ht, e, List.dropWhile_cons]; simp⟩
      · rw [if_neg (fun h => hc (UInt8.toNat_inj.1 (by omega)))]
        exact ⟨s, rfl, by rw [e, List.dropWhile_cons]; simp [hc]⟩
    · have h0 : os s = [] := List.eq_nil_of_length_eq_zero (by omega)
      rw [strings_trimLeftByte.l0, if_neg (by omega)]
      exact ⟨s, rfl, by rw [h0]; rfl⟩
theorem trimR (c : UInt8) : ∀ (n k : Nat) (s : ByteArray), (os s).length ≤ n → n ≤ 1000 → n + 1 ≤ k → ∃ t, strings_trimRightByte.l0 k s (c.toNat : Int) = some t ∧ os t = ((os s).reverse.dropWhile (· == c)).reverse := by
  intro n
  induction n with
  | zero =>
    intro k s h1 h2 h3
    have hs := size_os s
    obtain ⟨k, rfl⟩ : ∃ m, k = m + 1 := ⟨k - 1, by omega⟩
    have h0 : os s = [] := List.eq_nil_of_length_eq_zero (by omega)
    rw [strings_trimRightByte.l0, if_neg (by omega)]
    exact ⟨s, rfl, by rw [h0]; rfl⟩
  | succ n ih =>
    intro k s h1 h2 h3
    have hs := size_os s
    obtain ⟨k, rfl⟩ : ∃ m, k = m + 1 := ⟨k - 1, by omega⟩
    by_cases hp : 0 < (os s).length
    · obtain ⟨r, a, e⟩ : ∃ r a, os s = r ++ [a] := ⟨_, _, (List.dropLast_concat_getLast (List.ne_nil_of_length_pos hp)).symm⟩
      have hl : (os s).length = r.length + 1 := by rw [e]; simp
      have hw : wrap64 ((s.size : Int) - 1) = ((r.length : Nat) : Int) := by rw [wrap64_id (by omega) (by omega)]; omega
      have hb : bt s ((r.length : Nat) : Int) = (a.toNat : Int) := by rw [bt_c (by omega)]; simp [e]
      rw [strings_trimRightByte.l0, if_pos (by omega), hw, if_pos (by omega), if_pos (by omega), hb]
      by_cases hc : a = c
      · subst hc
        rw [if_pos rfl, if_pos (by omega)]
        have ht : os (s.extract 0 ((r.length : Nat) : Int).toNat) = r := by rw [os_extract, e, List.drop_zero, Int.toNat_natCast, Nat.sub_zero, List.take_left]
        obtain ⟨t, h4, h5⟩ := ih k (s.extract 0 ((r.length : Nat) : Int).toNat) (by rw [ht]; omega) (by omega) (by omega)
        exact ⟨t, h4, by rw [h5, ht, e]; simp⟩
      · rw [if_neg (fun h => hc (UInt8.toNat_inj.1 (by omega)))]
        exact ⟨s, rfl, by rw [e]; simp [hc]⟩
    · have h0 : os s = [] := List.eq_nil_of_length_eq_zero (by omega)
      rw [strings_trimRightByte.l0, if_neg (by omega)]
      exact ⟨s, rfl, by rw [h0]; rfl⟩
theorem dropWhile_len {α : Type} (p : α → Bool) : ∀ l : List α, (l.dropWhile p).length ≤ l.length ∧ ((l.dropWhile p).length = l.length → l.dropWhile p = l ∧ ∀ a, l.head? = some a → p a = false)
  | [] => ⟨Nat.le_refl _, fun _ => ⟨rfl, fun a h => by cases h⟩⟩
  | a :: r => by
    have ih := dropWhile_len p r
    rw [List.dropWhile_cons]
    cases h : p a with
    | true =>
      simp only [if_true, List.length_cons]
      exact ⟨by omega, fun h => by omega⟩
    | false => exact ⟨Nat.le_refl _, fun _ => ⟨rfl, fun b hb => by cases hb; exact h⟩⟩
theorem dropWhile_id {α : Type} (p : α → Bool) (l : List α) (h : ∀ a, l.head? = some a → p a = false) : l.dropWhile p = l := by
  cases l with
  | nil => rfl
  | cons a r => rw [List.dropWhile_cons, h a rfl]; rfl
theorem trim_p (s : ByteArray) (hs : (os s).length ≤ 1000) (k : Nat) (hk : 1100 ≤ k) : ∃ t, strings_Trim.f k s ⟨#[32]⟩ = some t ∧ (os t == os s) = (decide ((os s).head? ≠ some 32) && decide ((os s).getLast? ≠ some 32)) := by
  unfold strings_Trim.f
  rw [toList_os]
  obtain ⟨k, rfl⟩ : ∃ m, k = m + 2 := ⟨k - 2, by omega⟩
  by_cases h0 : os s = []
  · rw [if_pos h0, strings_Trim.j0, if_pos rfl]
    exact ⟨s, rfl, by rw [h0]; rfl⟩
  · rw [if_neg h0, show ((⟨#[32]⟩ : ByteArray).toList == ([] : List UInt8)) = false from by rw [toList_os]; rfl, strings_Trim.j0, if_neg (by decide), if_pos (by decide), if_pos (by decide), show decide ((bt ⟨#[32]⟩ 0) < 128) = true from by decide, strings_Trim.j1, if_pos rfl, if_pos (by decide)]
    have hb : bt ⟨#[32]⟩ 0 = ((32 : UInt8).toNat : Int) := by decide
    obtain ⟨t, h1, h2⟩ := trimR 32 (os s).length k s (Nat.le_refl _) hs (by omega)
    have hlt : (os t).length ≤ (os s).length := by rw [h2, List.length_reverse]; have := (dropWhile_len (· == (32 : UInt8)) (os s).reverse).1; rwa [List.length_reverse] at this
    obtain ⟨u, h3, h4⟩ := trimL 32 (os t).length k t (Nat.le_refl _) (by omega)
    unfold strings_trimRightByte.f strings_trimLeftByte.f
    rw [hb, h1, Option.bind_some, h3, Option.bind_some]
    refine ⟨u, rfl, ?_⟩
    rw [Bool.eq_iff_iff, beq_iff_eq, Bool.and_eq_true, decide_eq_true_eq, decide_eq_true_eq]
    constructor
    · intro he
      have e1 : (os u).length = (os s).length := by rw [he]
      have d1 := dropWhile_len (· == (32 : UInt8)) (os t)
      rw [← h4] at d1
      have e2 : (os u).length = (os t).length := by omega
      have d2 := dropWhile_len (· == (32 : UInt8)) (os s).reverse
      have e3 : ((os s).reverse.dropWhile (· == (32 : UInt8))).length = (os s).reverse.length := by
        rw [List.length_reverse]
        have := congrArg List.length h2
        rw [List.length_reverse] at this
        omega
      have f1 := (d1.2 e2).2
      have f2 := (d2.2 e3).2
      have e4 : os t = os s := by rw [h2, (d2.2 e3).1, List.reverse_reverse]
      rw [e4] at f1
      refine ⟨fun h => ?_, fun h => ?_⟩
      · have := f1 32 h; simp at this
      · rw [List.head?_reverse] at f2
        have := f2 32 h; simp at this
    · rintro ⟨f1, f2⟩
      have e1 : os t = os s := by
        rw [h2, dropWhile_id, List.reverse_reverse]
        intro a ha
        rw [List.head?_reverse] at ha
        refine beq_eq_false_iff_ne.2 fun e => f2 ?_
        rw [ha, e]
      rw [h4, e1, dropWhile_id]
      intro a ha
      refine beq_eq_false_iff_ne.2 fun e => f1 ?_
      rw [ha, e]
theorem val_p_loop (s : ByteArray) (hs : (os s).length ≤ 1000) : ∀ (n i k : Nat), (os s).length - i ≤ n → i ≤ (os s).length → n + 1101 ≤ k → pairs_Value.l0 k s (s.size : Int) (i : Int) = some (((os s).drop i).all (fun c => decide (32 ≤ c.toNat) && decide (c.toNat ≤ 126)) && (decide ((os s).length ≤ 40) && (decide ((os s).head? ≠ some 32) && decide ((os s).getLast? ≠ some 32)))) := by
  have hsz := size_os s
  have hend : ∀ k, 1100 ≤ k → pairs_Value.l0 (k + 1) s (s.size : Int) ((os s).length : Int) = some (decide ((os s).length ≤ 40) && (decide ((os s).head? ≠ some 32) && decide ((os s).getLast? ≠ some 32))) := fun k hk => by
    rw [pairs_Value.l0, if_neg (by omega)]
    obtain ⟨t, h1, h2⟩ := trim_p s hs k hk
    by_cases h : (os s).length ≤ 40
    · rw [if_pos (by omega), h1, Option.bind_some, toList_os, toList_os, h2, decide_eq_true h, Bool.true_and]
    · rw [if_neg (by omega), decide_eq_false h, Bool.false_and]
  intro n
  induction n with
  | zero =>
    intro i k h1 h2 h3
    obtain ⟨k, rfl⟩ : ∃ m, k = m + 1 := ⟨k - 1, by omega⟩
    obtain rfl : i = (os s).length := by omega
    rw [hend k (by omega), List.drop_length]; rfl
  | succ n ih =>
    intro i k h1 h2 h3
    obtain ⟨k, rfl⟩ : ∃ m, k = m + 1 := ⟨k - 1, by omega⟩
    by_cases hi : i < (os s).length
    · rw [pairs_Value.l0, if_pos (by omega), if_pos (by omega), if_pos (by omega), bt_c hi, wrapS (by omega), ih (i + 1) k (by omega) (by omega) (by omega), List.drop_eq_getElem_cons hi, List.all_cons]
      by_cases a1 : ((os s)[i]'hi).toNat < 32
      · rw [if_pos (by omega), show decide (32 ≤ ((os s)[i]'hi).toNat) = false from decide_eq_false (by omega)]; rfl
      · rw [if_neg (by omega), show decide (32 ≤ ((os s)[i]'hi).toNat) = true from decide_eq_true (by omega)]
        by_cases a2 : ((os s)[i]'hi).toNat > 126
        · rw [if_pos (by omega), show decide (((os s)[i]'hi).toNat ≤ 126) = false from decide_eq_false (by omega)]; rfl
        · rw [if_neg (by omega), show decide (((os s)[i]'hi).toNat ≤ 126) = true from decide_eq_true (by omega)]; rfl
    · obtain rfl : i = (os s).length := by omega
      rw [hend k (by omega), List.drop_length]; rfl
theorem val_p (s : ByteArray) (hs : (os s).length ≤ 1000) (k : Nat) (hk : 2200 ≤ k) : pairs_Value.f k s = some (isVal (os s)) := by
  have := val_p_loop s hs (os s).length 0 k (by omega) (by omega) (by omega)
  rw [List.drop_zero] at this
  exact this
end Go.Proofs.YtompldnifiieaaaDoor.L
namespace Go.Proofs.YtompldnifiieaaaDoor.L
open Go Go.RowKit Go.Proofs.YtompldnifiieaaaDoor.P Go.Proofs.YtompldnifiieaaaDoorW.PrintWords Go.Proofs.YtompldnifiieaaaDoorW.PrintLast

noncomputable def big (c : UInt8) : Bool := decide (65 ≤ c.toNat) && decide (c.toNat ≤ 90)
noncomputable def isMeth (l : List UInt8) : Bool := decide (l ≠ []) && (decide (l.length ≤ 10) && l.all big)
theorem meth_p (s : ByteArray) : rule_Method.f s = some (isMeth (os s)) := by
  have hs := size_os s
  unfold rule_Method.f isMeth
  rw [toList_os]
  by_cases h : os s = []
  · rw [if_pos h, h]; rfl
  · rw [if_neg h, decide_eq_true h, Bool.true_and]
    by_cases h2 : (os s).length ≤ 10
    · rw [if_pos (by omega), decide_eq_true h2, Bool.true_and]
      unfold strings_IndexFunc_with_rule_Method_1.f
      rw [Option.bind_some, idxRune_neg _ (fun r hr => by unfold strings_IndexFunc_with_rule_Method_1.p; rw [decide_eq_true (show 90 < r by omega), Bool.or_true])]
      congr 1
      rw [Bool.eq_iff_iff, List.all_eq_true, List.all_eq_true]
      have hb : ∀ c : UInt8, (!strings_IndexFunc_with_rule_Method_1.p c.toNat) = big c := fun c => by
        unfold strings_IndexFunc_with_rule_Method_1.p big
        by_cases a : c.toNat < 65
        · rw [decide_eq_true a, decide_eq_false (show ¬ 65 ≤ c.toNat by omega)]; rfl
        · rw [decide_eq_false a, decide_eq_true (show 65 ≤ c.toNat by omega)]
          by_cases b : 90 < c.toNat
          · rw [decide_eq_true b, decide_eq_false (show ¬ c.toNat ≤ 90 by omega)]; rfl
          · rw [decide_eq_false b, decide_eq_true (show c.toNat ≤ 90 by omega)]; rfl
      exact ⟨fun h c hc => by rw [← hb]; exact h c hc, fun h c hc => by rw [hb]; exact h c hc⟩
    · rw [if_neg (by omega), decide_eq_false h2, Bool.false_and]
noncomputable def isQ (l : List PT) : Bool := l.all (fun x => decide (os x.f0 ≠ []) && (decide ((os x.f0).length ≤ 40) && decide ((os x.f1).length ≤ 40))) && decide (l.length ≤ 20)
theorem q_p_loop (l : List PT) (hl : l.length ≤ 1000) : ∀ (n i k : Nat), l.length - i ≤ n → i ≤ l.length → n + 1 ≤ k → query_May.l0 k l l (l.length : Int) (i : Int) = some ((l.drop i).all (fun x => decide (os x.f0 ≠ []) && (decide ((os x.f0).length ≤ 40) && decide ((os x.f1).length ≤ 40))) && decide (l.length ≤ 20)) := by
  have hend : ∀ k, query_May.l0 (k + 1) l l (l.length : Int) ((l.length : Nat) : Int) = some (decide (l.length ≤ 20)) := fun k => by
    rw [query_May.l0, if_neg (by omega)]
    congr 1
    rw [decide_eq_decide]; omega
  intro n
  induction n with
  | zero =>
    intro i k h1 h2 h3
    obtain ⟨k, rfl⟩ : ∃ m, k = m + 1 := ⟨k - 1, by omega⟩
    obtain rfl : i = l.length := by omega
    rw [hend, List.drop_length]; rfl
  | succ n ih =>
    intro i k h1 h2 h3
    obtain ⟨k, rfl⟩ : ∃ m, k = m + 1 := ⟨k - 1, by omega⟩
    by_cases hi : i < l.length
    · have z0 := size_os (l[i]'hi).f0
      have z1 := size_os (l[i]'hi).f1
      rw [query_May.l0, if_pos (by omega), if_pos (by omega), if_pos (by omega), rd_at l i hi, wrapS (by omega), ih (i + 1) k (by omega) (by omega) (by omega), List.drop_eq_getElem_cons hi, List.all_cons, toList_os]
      by_cases a1 : os (l[i]'hi).f0 = []
      · rw [if_pos a1, show decide (os (l[i]'hi).f0 ≠ []) = false from decide_eq_false (fun h => h a1)]; rfl
      · rw [if_neg a1, show decide (os (l[i]'hi).f0 ≠ []) = true from decide_eq_true a1]
        by_cases a2 : (os (l[i]'hi).f0).length ≤ 40
        · rw [if_neg (by omega), decide_eq_true a2]
          by_cases a3 : (os (l[i]'hi).f1).length ≤ 40
          · rw [if_neg (by omega), decide_eq_true a3]; rfl
          · rw [if_pos (by omega), decide_eq_false a3]; rfl
        · rw [if_pos (by omega), decide_eq_false a2]; rfl
    · obtain rfl : i = l.length := by omega
      rw [hend, List.drop_length]; rfl
theorem q_p (l : List PT) (hl : l.length ≤ 1000) (k : Nat) (hk : 1100 ≤ k) : query_May.f k l = some (isQ l) := by
  have := q_p_loop l hl l.length 0 k (by omega) (by omega) (by omega)
  rw [List.drop_zero] at this
  exact this
noncomputable def twiceL (e : ByteArray → ByteArray → Bool) (l : List PT) : Bool := (List.range l.length).any fun i => (l.take i).any fun x => e x.f0 (l.getD i ⟨⟨#[]⟩, ⟨#[]⟩⟩).f0
theorem twice_p {q : ByteArray → ByteArray → Option Bool} {e : ByteArray → ByteArray → Bool} {m : Nat} {l : List PT} (hl : Small m l) (hq : ∀ a b : ByteArray, (os a).length ≤ 100 → (os b).length ≤ 100 → q a b = some (e a b)) : twiceAll q l = true ∧ twiceB q l = twiceL e l := by
  refine ⟨List.all_eq_true.2 fun y hy => List.all_eq_true.2 fun x hx => by rw [hq _ _ (hl.2 x hx).1 (hl.2 y hy).1]; rfl, ?_⟩
  unfold twiceB twiceL
  rw [Bool.eq_iff_iff, List.any_eq_true, List.any_eq_true]
  have hi : ∀ i, i < l.length → twiceAt q l i = ((l.take i).any fun x => e x.f0 (l.getD i ⟨⟨#[]⟩, ⟨#[]⟩⟩).f0) := fun i hi => by
    unfold twiceAt
    rw [rd_at l i hi, getD_at _ _ hi, Bool.eq_iff_iff, List.any_eq_true, List.any_eq_true]
    have hx : ∀ x ∈ l.take i, (q x.f0 (l[i]'hi).f0 == some true) = e x.f0 (l[i]'hi).f0 := fun x hx => by
      rw [hq _ _ (hl.2 x (List.mem_of_mem_take hx)).1 (hl.2 _ (List.getElem_mem hi)).1]
      cases e x.f0 (l[i]'hi).f0 <;> rfl
    exact ⟨fun ⟨x, h1, h2⟩ => ⟨x, h1, by rw [← hx x h1]; exact h2⟩, fun ⟨x, h1, h2⟩ => ⟨x, h1, by rw [hx x h1]; exact h2⟩⟩
  exact ⟨fun ⟨i, h1, h2⟩ => ⟨i, h1, by rw [← hi i (List.mem_range.1 h1)]; exact h2⟩, fun ⟨i, h1, h2⟩ => ⟨i, h1, by rw [hi i (List.mem_range.1 h1)]; exact h2⟩⟩
noncomputable def osE (a b : ByteArray) : Bool := os a == os b
theorem twice_fold {m : Nat} {l : List PT} (hl : Small m l) : rule_twice_with_pairs_Same.f l = some (twiceL eqN l) := by
  obtain ⟨h1, h2⟩ := twice_p (q := rule_twice_with_pairs_Same.q) (e := eqN) hl (fun a b ha hb => same_p a b (by omega) (by omega))
  unfold rule_twice_with_pairs_Same.f
  rw [if_pos h1, h2]
theorem twice_plain {m : Nat} {l : List PT} (hl : Small m l) : rule_twice_with_rule_May_2.f l = some (twiceL osE l) := by
  obtain ⟨h1, h2⟩ := twice_p (q := rule_twice_with_rule_May_2.q) (e := osE) hl (fun a b ha hb => by unfold rule_twice_with_rule_May_2.q osE; rw [toList_os, toList_os])
  unfold rule_twice_with_rule_May_2.f
  rw [if_pos h1, h2]
noncomputable def headOK (l : List PT) : Bool := l.all fun x => isTok (os x.f0) && isVal (os x.f1)
theorem odd_p {x : PT} (h0 : (os x.f0).length ≤ 100) (h1 : (os x.f1).length ≤ 100) : oddF x = some (!(isTok (os x.f0) && isVal (os x.f1))) := by
  unfold oddF
  rw [limF_of (F := fun k => pairs_Token.f k x.f0) (fun k r => pairs_Token.mono x.f0 k r) (tok_p x.f0 (by omega) 1100 (Nat.le_refl _)), Option.bind_some]
  cases isTok (os x.f0) with
  | false => rfl
  | true =>
    rw [if_pos rfl, limF_of (F := fun k => pairs_Value.f k x.f1) (fun k r => pairs_Value.mono x.f1 k r) (val_p x.f1 (by omega) 2200 (Nat.le_refl _)), Option.bind_some]; rfl
theorem odd_any {m : Nat} {l : List PT} (hl : Small m l) : slices_ContainsFunc_with_rule_May_1.f l = some (!headOK l) := by
  have hx : ∀ x ∈ l, oddF x = some (!(isTok (os x.f0) && isVal (os x.f1))) := fun x hx => odd_p (hl.2 x hx).1 (hl.2 x hx).2
  unfold slices_ContainsFunc_with_rule_May_1.f headOK
  rw [if_pos (List.all_eq_true.2 fun x h => by rw [hx x h]; rfl)]
  congr 1
  rw [List.not_all_eq_any_not, Bool.eq_iff_iff, List.any_eq_true, List.any_eq_true]
  have hy : ∀ x ∈ l, (oddF x == some true) = !(isTok (os x.f0) && isVal (os x.f1)) := fun x h => by
    rw [hx x h]
    cases (isTok (os x.f0) && isVal (os x.f1)) <;> rfl
  exact ⟨fun ⟨x, h1, h2⟩ => ⟨x, h1, by rw [← hy x h1]; exact h2⟩, fun ⟨x, h1, h2⟩ => ⟨x, h1, by rw [hy x h1]; exact h2⟩⟩

noncomputable def mayR (k : Int) (p m : ByteArray) (h q : List PT) : Bool := mayP k (os p) && ((decide (os m = []) || isMeth (os m)) && (decide (h.length ≤ 8) && (headOK h && (!twiceL eqN h && (decide (q.length ≤ 8) && (isQ q && !twiceL osE q))))))
theorem may_j1 (b : Bool) (k : Int) (p m : ByteArray) (h q : List PT) (hq : Small 31 q) (i : Nat) (hi : 1100 ≤ i) : rule_May.j1 (i + 1) b k p m h q = some (!b && (decide (q.length ≤ 8) && (isQ q && !twiceL osE q))) := by
  have h2 := hq.1
  rw [rule_May.j1]
  cases b with
  | true => rfl
  | false =>
    rw [if_neg (by decide)]
    by_cases c : q.length ≤ 8
    · rw [if_pos (by omega), q_p q (by omega) i hi, Option.bind_some, decide_eq_true c]
      cases isQ q with
      | false => rfl
      | true => rw [if_pos rfl, twice_plain hq]; rfl
    · rw [if_neg (by omega), decide_eq_false c]; rfl
theorem may_j0 (b : Bool) (k : Int) (p m : ByteArray) (h q : List PT) (hh : Small 31 h) (hq : Small 31 q) (i : Nat) (hi : 1100 ≤ i) : rule_May.j0 (i + 2) b k p m h q = some (!b && (decide (h.length ≤ 8) && (headOK h && (!twiceL eqN h && (decide (q.length ≤ 8) && (isQ q && !twiceL osE q)))))) := by
  have h2 := hh.1
  have e := fun b => may_j1 b k p m h q hq i hi
  rw [rule_May.j0]
  cases b with
  | true => rfl
  | false =>
    rw [if_neg (by decide)]
    by_cases c : h.length ≤ 8
    · rw [if_neg (by omega), odd_any hh, Option.bind_some, decide_eq_true c]
      cases headOK h with
      | false => rw [Bool.not_false, if_pos rfl, e]; rfl
      | true =>
        rw [Bool.not_true, if_neg (by decide), twice_fold hh, Option.bind_some, e]; rfl
    · rw [if_pos (by omega), e, decide_eq_false c]; rfl
theorem may_p (k : Int) (p m : ByteArray) (h q : List PT) (hp : (os p).length ≤ 100) (hh : Small 31 h) (hq : Small 31 q) (n : Nat) (hn : 2000 ≤ n) : rule_May.f n k p m h q = some (mayR k p m h q) := by
  have hps := size_os p
  obtain ⟨n, rfl⟩ : ∃ i, n = i + 2 := ⟨n - 2, by omega⟩
  have e := fun b => may_j0 b k p m h q hh hq n (by omega)
  unfold rule_May.f mayR
  rw [path_may k p (by omega), Option.bind_some]
  cases mayP k (os p) with
  | false => rw [if_neg (by decide), e]; rfl
  | true =>
    rw [if_pos rfl, toList_os]
    by_cases c : os m = []
    · rw [if_pos c, e, decide_eq_true c]; rfl
    · rw [if_neg c, meth_p, Option.bind_some, e, decide_eq_false c, Bool.not_not]; rfl

noncomputable def holdsM (k : Int) (p m : ByteArray) (h q : List PT) (rm rp : ByteArray) (rq rh : List PT) : Bool := mayR k p m h q && (holdsP k (os p) (os rp) && ((decide (os m = []) || os m == os rm) && (h.all (holdsOne true rh) && q.all (holdsOne false rq))))
theorem hold_p (k : Int) (p m : ByteArray) (h q : List PT) (hp : (os p).length ≤ 100) (hh : Small 31 h) (hq : Small 31 q) (rm rho rp : ByteArray) (rq rh : List PT) {c c' : Nat} (hrq : Small c rq) (hrh : Small c' rh) (n : Nat) (hn : 2000 ≤ n) : rule_Holds.f n k p m h q rm rho rp rq rh = some (holdsM k p m h q rm rp rq rh) := by
  have hps := size_os p
  unfold rule_Holds.f holdsM
  rw [may_p k p m h q hp hh hq n hn, Option.bind_some]
  cases mayR k p m h q with
  | false => rfl
  | true =>
    rw [if_pos rfl, path_holds k p rp n (by omega) (by omega), Option.bind_some]
    cases holdsP k (os p) (os rp) with
    | false => rfl
    | true =>
      rw [if_pos rfl, toList_os, toList_os, holds_p true hh hrh, holds_p false hq hrq]
      by_cases c : os m = []
      · rw [if_pos c, decide_eq_true c]
        cases h.all (holdsOne true rh) <;> rfl
      · rw [if_neg c, decide_eq_false c]
        by_cases c2 : os m = os rm
        · rw [if_pos c2, show (os m == os rm) = true from beq_iff_eq.2 c2]
          cases h.all (holdsOne true rh) <;> rfl
        · rw [if_neg c2, show (os m == os rm) = false from beq_eq_false_iff_ne.2 c2]; rfl
end Go.Proofs.YtompldnifiieaaaDoor.L
namespace Go.Proofs.YtompldnifiieaaaDoor.L
variable {α : Type} {hold : α → Bool} {key : α → Int}
noncomputable def BestAt (hold : α → Bool) (key : α → Int) (l : List α) (f : Nat) : Prop := ∃ x, l[f]? = some x ∧ hold x = true ∧ (∀ y ∈ l, hold y = true → key x ≤ key y) ∧ ∀ j y, j < f → l[j]? = some y → hold y = true → key x < key y
noncomputable def IsBest (hold : α → Bool) (key : α → Int) (l : List α) : Option Nat → Prop
  | none => ∀ y ∈ l, hold y = false
  | some f => BestAt hold key l f
theorem getE_snoc {p : List α} {y z : α} {j : Nat} (h : (p ++ [y])[j]? = some z) : (j < p.length ∧ p[j]? = some z) ∨ (j = p.length ∧ z = y) := by
  rcases Nat.lt_or_ge j p.length with c | c
  · rw [List.getElem?_append_left c] at h; exact .inl ⟨c, h⟩
  · rw [List.getElem?_append_right c] at h
    rcases Nat.eq_zero_or_pos (j - p.length) with e | e
    · rw [e] at h; simp at h; exact .inr ⟨by omega, h.symm⟩
    · rw [List.getElem?_eq_none (by simp; omega)] at h; cases h
theorem getE_len {l : List α} {j : Nat} {x : α} (h : l[j]? = some x) : j < l.length := (List.getElem?_eq_some_iff.1 h).1
theorem IsBest.nil : IsBest hold key ([] : List α) none := fun _ h => by cases h
theorem IsBest.no {p : List α} {y : α} {o : Option Nat} (h : IsBest hold key p o) (hy : hold y = false) : IsBest hold key (p ++ [y]) o := by
  cases o with
  | none =>
    intro z hz
    rcases List.mem_append.1 hz with hz | hz
    · exact h z hz
    · rw [List.mem_singleton.1 hz]; exact hy
  | some f =>
    obtain ⟨x, h1, h2, h3, h4⟩ := h
    refine ⟨x, by rw [List.getElem?_append_left (getE_len h1)]; exact h1, h2, fun z hz hh => ?_, fun j z hj hz hh => ?_⟩
    · rcases List.mem_append.1 hz with hz | hz
      · exact h3 z hz hh
      · rw [List.mem_singleton.1 hz, hy] at hh; cases hh
    · rcases getE_snoc hz with ⟨_, hz⟩ | ⟨_, hz⟩
      · exact h4 j z hj hz hh
      · rw [hz, hy] at hh; cases hh
theorem IsBest.one {p : List α} {y : α} (h : IsBest hold key p none) (hy : hold y = true) : IsBest hold key (p ++ [y]) (some p.length) := by
  refine ⟨y, by simp, hy, fun z hz hh => ?_, fun j z hj hz hh => ?_⟩
  · rcases List.mem_append.1 hz with hz | hz
    · rw [h z hz] at hh; cases hh
    · rw [List.mem_singleton.1 hz]; exact Int.le_refl _
  · rcases getE_snoc hz with ⟨hl, hz⟩ | ⟨hl, hz⟩
    · rw [h z (List.mem_of_getElem? hz)] at hh; cases hh
    · omega
theorem IsBest.less {p : List α} {x y : α} {f : Nat} (h : IsBest hold key p (some f)) (hx : p[f]? = some x) (hy : hold y = true) (hk : key y < key x) : IsBest hold key (p ++ [y]) (some p.length) := by
  obtain ⟨x', h1, h2, h3, h4⟩ := h
  obtain rfl : x' = x := Option.some.inj (h1.symm.trans hx)
  refine ⟨y, by simp, hy, fun z hz hh => ?_, fun j z hj hz hh => ?_⟩
  · rcases List.mem_append.1 hz with hz | hz
    · have := h3 z hz hh; omega
    · rw [List.mem_singleton.1 hz]; exact Int.le_refl _
  · rcases getE_snoc hz with ⟨hl, hz⟩ | ⟨hl, hz⟩
    · have := h3 z (List.mem_of_getElem? hz) hh; omega
    · omega
theorem IsBest.more {p : List α} {x y : α} {f : Nat} (h : IsBest hold key p (some f)) (hx : p[f]? = some x) (hk : key x ≤ key y) : IsBest hold key (p ++ [y]) (some f) := by
  obtain ⟨x', h1, h2, h3, h4⟩ := h
  obtain rfl : x' = x := Option.some.inj (h1.symm.trans hx)
  refine ⟨x', by rw [List.getElem?_append_left (getE_len h1)]; exact h1, h2, fun z hz hh => ?_, fun j z hj hz hh => ?_⟩
  · rcases List.mem_append.1 hz with hz | hz
    · exact h3 z hz hh
    · rw [List.mem_singleton.1 hz]; exact hk
  · have := getE_len h1
    rcases getE_snoc hz with ⟨hl, hz⟩ | ⟨hl, hz⟩
    · exact h4 j z hj hz hh
    · omega
theorem IsBest.step {p : List α} {o : Option Nat} (h : IsBest hold key p o) (y : α) : ∃ o', IsBest hold key (p ++ [y]) o' := by
  cases hy : hold y with
  | false => exact ⟨o, h.no hy⟩
  | true =>
    cases o with
    | none => exact ⟨_, h.one hy⟩
    | some f =>
      obtain ⟨x, h1, _⟩ := id h
      by_cases hk : key y < key x
      · exact ⟨_, h.less h1 hy hk⟩
      · exact ⟨_, h.more h1 (by omega)⟩
theorem IsBest.some_of {l : List α} {o : Option Nat} (h : IsBest hold key l o) {y : α} (hy : y ∈ l) (hh : hold y = true) : ∃ f x, o = some f ∧ l[f]? = some x ∧ hold x = true ∧ ∀ z ∈ l, hold z = true → key x ≤ key z := by
  cases o with
  | none => rw [h y hy] at hh; cases hh
  | some f => obtain ⟨x, h1, h2, h3, _⟩ := h; exact ⟨f, x, rfl, h1, h2, h3⟩
theorem IsBest.unique {l : List α} {o o' : Option Nat} (h : IsBest hold key l o) (h' : IsBest hold key l o') : o = o' := by
  cases o with
  | none =>
    cases o' with
    | none => rfl
    | some f => obtain ⟨x, h1, h2, _⟩ := h'; rw [h x (List.mem_of_getElem? h1)] at h2; cases h2
  | some f =>
    obtain ⟨x, h1, h2, h3, h4⟩ := h
    cases o' with
    | none => rw [h' x (List.mem_of_getElem? h1)] at h2; cases h2
    | some g =>
      obtain ⟨y, g1, g2, g3, g4⟩ := h'
      have e1 := h3 y (List.mem_of_getElem? g1) g2
      have e2 := g3 x (List.mem_of_getElem? h1) h2
      rcases Nat.lt_trichotomy f g with c | c | c
      · have := g4 f x c h1 h2; omega
      · rw [c]
      · have := h4 g y c g1 g2; omega
end Go.Proofs.YtompldnifiieaaaDoor.L
namespace Go.Proofs.YtompldnifiieaaaDoor.L
open Go Go.RowKit Go.Proofs.YtompldnifiieaaaDoor.P Go.Proofs.YtompldnifiieaaaDoorW.PrintWords Go.Proofs.YtompldnifiieaaaDoorW.PrintLast

abbrev MT := S26
noncomputable def SmallM (x : MT) : Prop := (os x.f0.f1).length ≤ 100 ∧ (os x.f1).length ≤ 100 ∧ Small 31 x.f2 ∧ Small 31 x.f3
noncomputable def fewM (x : MT) : MT := ⟨⟨x.f0.f0, few x.f0.f1⟩, few x.f1, fewL x.f2, fewL x.f3⟩
theorem fewM_small (x : MT) : SmallM (fewM x) := ⟨few_len _, few_len _, fewL_small _, fewL_small _⟩
theorem few3 (k : Int) (s : ByteArray) : tolllaw03_Few.f k s = some (k, few s) := by
  unfold tolllaw03_Few.f
  rw [few_eq]; rfl
theorem fewM_eq (k : Int) (p m : ByteArray) (h q : List PT) (n : Nat) (hn : 70 ≤ n) : tolllaw06_Few.f n k p m h q = some (k, few p, few m, fewL h, fewL q) := by
  unfold tolllaw06_Few.f
  rw [few3, Option.bind_some, few_eq, Option.bind_some, fewL_eq _ _ hn, Option.bind_some, fewL_eq _ _ hn, Option.bind_some]
theorem asked_eq (a b c : ByteArray) (q h : List PT) (n : Nat) (hn : 70 ≤ n) : tolllaw06_Asked.f n a b c q h = some (few a, few b, few c, fewL q, fewL h) := by
  unfold tolllaw06_Asked.f
  rw [few_eq, Option.bind_some, few_eq, Option.bind_some, few_eq, Option.bind_some, fewL_eq _ _ hn, Option.bind_some, fewL_eq _ _ hn, Option.bind_some]
theorem rd_m (l : List MT) (i : Nat) (h : i < l.length) : rd_T26 l (i : Int) = l[i] := by
  unfold rd_T26
  rw [Int.toNat_natCast, List.getD_eq_getElem?_getD, List.getElem?_eq_getElem h]; rfl
theorem some_loop (l : List MT) : ∀ (n i k : Nat) (acc : List MT), 10 - i ≤ n → i ≤ 10 → i ≤ l.length → acc.length ≤ 1000 + i → n + 80 ≤ k → tolllaw06_some.l0 k l acc (i : Int) = some (acc ++ ((l.drop i).take (10 - i)).map fewM) := by
  intro n
  induction n with
  | zero =>
    intro i k acc h1 h2 h3 h4 h5
    obtain ⟨k, rfl⟩ : ∃ m, k = m + 1 := ⟨k - 1, by omega⟩
    obtain rfl : i = 10 := by omega
    rw [tolllaw06_some.l0]
    by_cases c : (10 : Nat) < l.length
    · rw [if_pos (by omega), if_neg (by omega)]; simp
    · rw [if_neg (by omega)]; simp
  | succ n ih =>
    intro i k acc h1 h2 h3 h4 h5
    obtain ⟨k, rfl⟩ : ∃ m, k = m + 1 := ⟨k - 1, by omega⟩
    by_cases c : i < l.length
    · by_cases c2 : i < 10
      · rw [tolllaw06_some.l0, if_pos (by omega), if_pos (by omega), if_pos (by omega), rd_m l i c, fewM_eq _ _ _ _ _ _ (by omega), Option.bind_some, if_pos (by omega), wrapS (by omega), ih (i + 1) k _ (by omega) (by omega) (by omega) (by rw [List.length_append, List.length_singleton]; omega) (by omega), List.drop_eq_getElem_cons c, show 10 - i = (10 - (i + 1)) + 1 by omega, List.take_succ_cons, List.map_cons, List.append_assoc]; rfl
      · obtain rfl : i = 10 := by omega
        rw [tolllaw06_some.l0, if_pos (by omega), if_neg (by omega)]; simp
    · obtain rfl : i = l.length := by omega
      rw [tolllaw06_some.l0, if_neg (by omega)]; simp
noncomputable def someM (l : List MT) : List MT := (l.take 10).map fewM
theorem some_eq (l : List MT) (k : Nat) (hk : 100 ≤ k) : tolllaw06_some.f k l = some (someM l) := by
  have := some_loop l 10 0 k [] (by omega) (by omega) (by omega) (by simp) (by omega)
  exact this
noncomputable def SmallMs (n : Nat) (l : List MT) : Prop := l.length ≤ n ∧ ∀ x ∈ l, SmallM x
theorem someM_small (l : List MT) : SmallMs 10 (someM l) := ⟨by unfold someM; rw [List.length_map, List.length_take]; omega, fun x hx => by
  obtain ⟨y, _, rfl⟩ := List.mem_map.1 hx
  exact fewM_small y⟩

noncomputable def keyM (k : Int) (p m : ByteArray) (h q : List PT) : Int := k * 1000000 - ((os p).length : Int) * 5000 + (if os m = [] then 2500 else 0) - (h.length : Int) * 40 - (q.length : Int)
noncomputable def sgn (a b : Int) : Int := if a < b then -1 else if a = b then 0 else 1
theorem cmp_p (a b : Int) : cmp_Compare_int.f a b = some (sgn a b) := by
  unfold cmp_Compare_int.f cmp_isNaN_int.f sgn
  rw [Option.bind_some, Option.bind_some, show (a != a) = false by simp, show (b != b) = false by simp, if_neg (by decide), if_neg (by decide)]
  by_cases h1 : a < b
  · rw [if_pos h1, if_pos h1]
  · rw [if_neg h1, if_neg h1]
    by_cases h2 : a = b
    · rw [if_neg (by omega), if_pos h2]
    · rw [if_pos (by omega), if_neg h2]
noncomputable def sgnL : List Int → List Int → Int
  | a :: x, b :: y => if sgn a b = 0 then sgnL x y else sgn a b
  | _, _ => 0
theorem compare_loop (x y : List Int) (hxy : x.length = y.length) (hx : x.length ≤ 1000) : ∀ (n i k : Nat), x.length - i ≤ n → i ≤ x.length → n + 1 ≤ k → slices_Compare_int_int.l0 k x y x (x.length : Int) (i : Int) = some (sgnL (x.drop i) (y.drop i)) := by
  have hend : ∀ k, slices_Compare_int_int.l0 (k + 1) x y x (x.length : Int) ((x.length : Nat) : Int) = some (sgnL (x.drop x.length) (y.drop x.length)) := fun k => by
    rw [slices_Compare_int_int.l0, if_neg (by omega), if_neg (by omega), List.drop_length]; rfl
  intro n
  induction n with
  | zero =>
    intro i k h1 h2 h3
    obtain ⟨k, rfl⟩ : ∃ m, k = m + 1 := ⟨k - 1, by omega⟩
    obtain rfl : i = x.length := by omega
    exact hend k
  | succ n ih =>
    intro i k h1 h2 h3
    obtain ⟨k, rfl⟩ : ∃ m, k = m + 1 := ⟨k - 1, by omega⟩
    by_cases hi : i < x.length
    · have hr : ∀ (l : List Int) (h : i < l.length), rd l (i : Int) = l[i]'h := fun l h => by
        unfold rd
        rw [Int.toNat_natCast, List.getD_eq_getElem?_getD, List.getElem?_eq_getElem h]; rfl
      have hy : i < y.length := by omega
      have ey : y.drop i = y[i]'hy :: y.drop (i + 1) := List.drop_eq_getElem_cons hy
      have ex : x.drop i = x[i]'hi :: x.drop (i + 1) := List.drop_eq_getElem_cons hi
      rw [slices_Compare_int_int.l0, if_pos (by omega), if_pos (by omega), if_pos (by omega), if_neg (by omega), if_pos (by omega), hr x hi, hr y hy, cmp_p, Option.bind_some, wrapS (by omega), ih (i + 1) k (by omega) (by omega) (by omega), ex, ey, sgnL]
      by_cases c : sgn (x[i]'hi) (y[i]'hy) = 0
      · rw [if_pos c, if_pos c]
      · rw [if_neg c, if_neg c]
    · obtain rfl : i = x.length := by omega
      exact hend k
theorem sgnL_refl : ∀ x : List Int, sgnL x x = 0
  | [] => rfl
  | a :: x => by rw [sgnL, if_pos (by unfold sgn; simp), sgnL_refl x]
theorem ordF_p (x y : List Int) (hxy : x.length = y.length) (hx : x.length ≤ 1000) : ordF x y = some (sgnL x y) := by
  unfold ordF
  by_cases h : x = y
  · rw [if_pos h, h, sgnL_refl]
  · rw [if_neg h]
    have := compare_loop x y hxy hx x.length 0 (x.length + 1) (by omega) (by omega) (by omega)
    rw [List.drop_zero, List.drop_zero] at this
    exact limF_of (fun k r => slices_Compare_int_int.mono x y k r) this
theorem sgn_step {x y X Y r : Int} (h1 : x < y → X < Y) (h2 : y < x → Y < X) (h3 : x = y → r = sgn X Y) : (if sgn x y = 0 then r else sgn x y) = sgn X Y := by
  rcases Int.lt_trichotomy x y with h | h | h
  · have e1 : sgn x y = -1 := by unfold sgn; rw [if_pos h]
    have e2 : sgn X Y = -1 := by unfold sgn; rw [if_pos (h1 h)]
    rw [e1, e2]; rfl
  · have e1 : sgn x y = 0 := by unfold sgn; rw [if_neg (by omega), if_pos h]
    rw [if_pos e1, h3 h]
  · have e1 : sgn x y = 1 := by unfold sgn; rw [if_neg (by omega), if_neg (by omega)]
    have e2 : sgn X Y = 1 := by have := h2 h; unfold sgn; rw [if_neg (by omega), if_neg (by omega)]
    rw [e1, e2]; rfl
theorem lex5 {k k' m m' : Int} {a a' b b' c c' : Nat} (ha : a ≤ 100) (ha' : a' ≤ 100) (hm : 0 ≤ m) (hm1 : m ≤ 1) (hb : b ≤ 31) (hb' : b' ≤ 31) (hc : c ≤ 31) (hc' : c' ≤ 31) (hm' : 0 ≤ m') (hm1' : m' ≤ 1) (_ : True) (_ : True) :
    sgnL [k, -(a : Int), m, -(b : Int), -(c : Int)] [k', -(a' : Int), m', -(b' : Int), -(c' : Int)] = sgn (k * 1000000 - (a : Int) * 5000 + m * 2500 - (b : Int) * 40 - (c : Int)) (k' * 1000000 - (a' : Int) * 5000 + m' * 2500 - (b' : Int) * 40 - (c' : Int)) := by
  refine sgn_step (by omega) (by omega) (fun _ => sgn_step (by omega) (by omega) (fun _ => sgn_step (by omega) (by omega) (fun _ => sgn_step (by omega) (by omega) (fun _ => sgn_step (by omega) (by omega) (fun _ => ?_)))))
  show (0 : Int) = _
  unfold sgn
  rw [if_neg (by omega), if_pos (by omega)]
theorem ord_p {k k' : Int} {p m p' m' : ByteArray} {h q h' q' : List PT} (h1 : (os p).length ≤ 100) (h2 : Small 31 h) (h3 : Small 31 q) (h1' : (os p').length ≤ 100) (h2' : Small 31 h') (h3' : Small 31 q') :
    rule_Order.f k p m h q k' p' m' h' q' = some (sgn (keyM k p m h q) (keyM k' p' m' h' q')) := by
  have e2 := h2.1
  have e3 := h3.1
  have e2' := h2'.1
  have e3' := h3'.1
  have es := size_os p
  have es' := size_os p'
  unfold rule_Order.f
  rw [ordF_p _ _ (by rfl) (by show 5 ≤ 1000; decide)]
  congr 1
  unfold rankL keyM
  rw [toList_os, toList_os, es, es', wrap64_id (x := -((os p).length : Int)) (by omega) (by omega), wrap64_id (x := -((os p').length : Int)) (by omega) (by omega), wrap64_id (x := -(h.length : Int)) (by omega) (by omega), wrap64_id (x := -(h'.length : Int)) (by omega) (by omega), wrap64_id (x := -(q.length : Int)) (by omega) (by omega), wrap64_id (x := -(q'.length : Int)) (by omega) (by omega)]
  generalize (os p).length = a at *
  generalize (os p').length = a' at *
  generalize h.length = b at *
  generalize h'.length = b' at *
  generalize q.length = c at *
  generalize q'.length = c' at *
  have hb : ∀ l : List UInt8, (0 : Int) ≤ (if l = [] then 1 else 0) ∧ (if l = [] then (1 : Int) else 0) ≤ 1 ∧ (if l = [] then (2500 : Int) else 0) = (if l = [] then (1 : Int) else 0) * 2500 := fun l => by split <;> decide
  obtain ⟨b1, b2, b3⟩ := hb (os m)
  obtain ⟨b1', b2', b3'⟩ := hb (os m')
  rw [b3, b3']
  exact lex5 (by omega) (by omega) b1 b2 (by omega) (by omega) (by omega) (by omega) b1' b2' trivial trivial
noncomputable def keyX (x : MT) : Int := keyM x.f0.f0 x.f0.f1 x.f1 x.f2 x.f3
noncomputable def holdX (rm rp : ByteArray) (rq rh : List PT) (x : MT) : Bool := holdsM x.f0.f0 x.f0.f1 x.f1 x.f2 x.f3 rm rp rq rh
theorem hold_x (x : MT) (hx : SmallM x) (rm rho rp : ByteArray) (rq rh : List PT) {c c' : Nat} (hrq : Small c rq) (hrh : Small c' rh) (n : Nat) (hn : 2000 ≤ n) : rule_Holds.f n x.f0.f0 x.f0.f1 x.f1 x.f2 x.f3 rm rho rp rq rh = some (holdX rm rp rq rh x) :=
  hold_p _ _ _ _ _ hx.1 hx.2.2.1 hx.2.2.2 rm rho rp rq rh hrq hrh n hn
theorem ord_x {x y : MT} (hx : SmallM x) (hy : SmallM y) : rule_Order.f x.f0.f0 x.f0.f1 x.f1 x.f2 x.f3 y.f0.f0 y.f0.f1 y.f1 y.f2 y.f3 = some (sgn (keyX x) (keyX y)) :=
  ord_p hx.1 hx.2.2.1 hx.2.2.2 hy.1 hy.2.2.1 hy.2.2.2
noncomputable def atI : Option Nat → Int
  | none => -1
  | some f => (f : Int)
theorem first_loop (l : List MT) (hl : SmallMs 100 l) (rm rho rp : ByteArray) (rq rh : List PT) {c c' : Nat} (hrq : Small c rq) (hrh : Small c' rh) : ∀ (n i k : Nat) (o : Option Nat), l.length - i ≤ n → i ≤ l.length → n + 2001 ≤ k → IsBest (holdX rm rp rq rh) keyX (l.take i) o →
    ∃ o', IsBest (holdX rm rp rq rh) keyX l o' ∧ rule_First.l0 k l (atI o) l (l.length : Int) (i : Int) rm rho rp rq rh = some (mx (atI o') 0, decide (atI o' ≥ 0)) := by
  have hl1 := hl.1
  have hend : ∀ k o, IsBest (holdX rm rp rq rh) keyX (l.take l.length) o → ∃ o', IsBest (holdX rm rp rq rh) keyX l o' ∧ rule_First.l0 (k + 1) l (atI o) l (l.length : Int) ((l.length : Nat) : Int) rm rho rp rq rh = some (mx (atI o') 0, decide (atI o' ≥ 0)) := fun k o ho => by
    rw [List.take_length] at ho
    exact ⟨o, ho, by rw [rule_First.l0, if_neg (by omega)]⟩
  intro n
  induction n with
  | zero =>
    intro i k o h1 h2 h3 h4
    obtain ⟨k, rfl⟩ : ∃ m, k = m + 1 := ⟨k - 1, by omega⟩
    obtain rfl : i = l.length := by omega
    exact hend k o h4
  | succ n ih =>
    intro i k o h1 h2 h3 h4
    obtain ⟨k, rfl⟩ : ∃ m, k = m + 1 := ⟨k - 1, by omega⟩
    by_cases hi : i < l.length
    · have hx := hl.2 _ (List.getElem_mem hi)
      have et : l.take (i + 1) = l.take i ++ [l[i]'hi] := by rw [List.take_append_getElem hi]
      have hlen : (l.take i).length = i := by rw [List.length_take]; omega
      rw [rule_First.l0, if_pos (by omega), if_pos (by omega), if_pos (by omega), rd_m l i hi, hold_x _ hx rm rho rp rq rh hrq hrh k (by omega), Option.bind_some, wrapS (by omega)]
      have step := fun (o : Option Nat) (h : IsBest (holdX rm rp rq rh) keyX (l.take i ++ [l[i]'hi]) o) => ih (i + 1) k o (by omega) (by omega) (by omega) (by rw [et]; exact h)
      cases hb : holdX rm rp rq rh (l[i]'hi) with
      | false => rw [if_neg (by decide)]; exact step o (h4.no hb)
      | true =>
        rw [if_pos rfl]
        cases o with
        | none =>
          rw [if_pos (show atI none < 0 by decide)]
          have := step (some (l.take i).length) (h4.one hb)
          rw [hlen] at this
          exact this
        | some f =>
          obtain ⟨y, hy, _⟩ := id h4
          have hf := getE_len hy
          rw [hlen] at hf
          have hy' : l[f]? = some y := by rw [List.getElem?_take_of_lt hf] at hy; exact hy
          obtain ⟨hfl, rfl⟩ := List.getElem?_eq_some_iff.1 hy'
          have hys := hl.2 _ (List.getElem_mem hfl)
          rw [show atI (some f) = (f : Int) from rfl, if_neg (by omega), if_pos (by omega), if_pos (by omega), rd_m l f hfl, ord_x hx hys, Option.bind_some]
          by_cases hk : keyX (l[i]'hi) < keyX (l[f]'hfl)
          · rw [if_pos (by unfold sgn; rw [if_pos hk]; decide)]
            have := step (some (l.take i).length) (h4.less hy hb hk)
            rw [hlen] at this
            exact this
          · rw [if_neg (by unfold sgn; rw [if_neg hk]; split <;> decide)]
            exact step (some f) (h4.more hy (by omega))
    · obtain rfl : i = l.length := by omega
      exact hend k o h4
noncomputable def ansI : Option Nat → Int × Bool
  | none => (0, false)
  | some f => ((f : Int), true)
theorem first_p (l : List MT) (hl : SmallMs 100 l) (rm rho rp : ByteArray) (rq rh : List PT) {c c' : Nat} (hrq : Small c rq) (hrh : Small c' rh) (k : Nat) (hk : 2200 ≤ k) : ∃ o, IsBest (holdX rm rp rq rh) keyX l o ∧ rule_First.f k l rm rho rp rq rh = some (ansI o) := by
  have hl1 := hl.1
  obtain ⟨o, h1, h2⟩ := first_loop l hl rm rho rp rq rh hrq hrh l.length 0 k none (by omega) (by omega) (by omega) (by rw [List.take_zero]; exact IsBest.nil)
  refine ⟨o, h1, h2.trans ?_⟩
  congr 1
  cases o with
  | none => rfl
  | some f =>
    show (mx (f : Int) 0, decide ((f : Int) ≥ 0)) = ((f : Int), true)
    unfold mx
    rw [if_neg (by omega), decide_eq_true (by omega)]
theorem first_is {l : List MT} (hl : SmallMs 100 l) (rm rho rp : ByteArray) {rq rh : List PT} {c c' : Nat} (hrq : Small c rq) (hrh : Small c' rh) {k : Nat} (hk : 2200 ≤ k) {o : Option Nat} (h : IsBest (holdX rm rp rq rh) keyX l o) : rule_First.f k l rm rho rp rq rh = some (ansI o) := by
  obtain ⟨o', h1, h2⟩ := first_p l hl rm rho rp rq rh hrq hrh k hk
  rw [h.unique h1]; exact h2

theorem small0 : Small 31 ([] : List PT) := ⟨by decide, fun x h => by cases h⟩
noncomputable def awX (i : Nat) : MT := ⟨⟨awK i, awS i⟩, awM i, [], []⟩
theorem rule_awake : tolllaw06_awake.f = some true := by
  have sm : ∀ (a : Int) (s m : ByteArray), (os s).length ≤ 100 → (os m).length ≤ 100 → SmallM ⟨⟨a, s⟩, m, [], []⟩ := fun a s m h1 h2 => ⟨h1, h2, small0, small0⟩
  have e1 : keyX (awX 0) = 992500 := rfl
  have e2 : keyX (awX 1) = 1982500 := rfl
  have e3 : keyX (awX 2) = 1990000 := rfl
  have e4 : keyX (awX 3) = 1992500 := rfl
  have hs : ∀ i, i < 4 → SmallM (awX i) := fun i hi => by
    have hc : i = 0 ∨ i = 1 ∨ i = 2 ∨ i = 3 := by omega
    rcases hc with rfl | rfl | rfl | rfl <;> exact sm _ _ _ (by decide) (by decide)
  have ho : ∀ i j, i < 4 → j < 4 → ordF (awR i) (awR j) = some (sgn (keyX (awX i)) (keyX (awX j))) := fun i j hi hj => ord_x (hs i hi) (hs j hj)
  have hk : ∀ i j, i < j → j < 4 → keyX (awX i) < keyX (awX j) := fun i j h1 h2 => by
    have hc : (i = 0 ∧ j = 1) ∨ (i = 0 ∧ j = 2) ∨ (i = 0 ∧ j = 3) ∨ (i = 1 ∧ j = 2) ∨ (i = 1 ∧ j = 3) ∨ (i = 2 ∧ j = 3) := by omega
    rcases hc with ⟨rfl, rfl⟩ | ⟨rfl, rfl⟩ | ⟨rfl, rfl⟩ | ⟨rfl, rfl⟩ | ⟨rfl, rfl⟩ | ⟨rfl, rfl⟩ <;> simp only [e1, e2, e3, e4] <;> decide
  have hw : AwakeOk := by
    refine ⟨fun i j h1 h2 => ?_, ⟨2200, ?_⟩, ⟨2000, ?_⟩, ⟨2000, ?_⟩⟩
    · have := hk i j h1 h2
      rw [ho i j (by omega) h2, ho j i h2 (by omega)]
      unfold sgn
      exact ⟨by rw [if_pos this], by rw [if_neg (by omega), if_neg (by omega)]⟩
    · have b1 : IsBest (holdX ⟨#[]⟩ ⟨#[47, 97, 47, 98]⟩ [] []) keyX [(⟨⟨2, ⟨#[47]⟩⟩, ⟨#[]⟩, [], []⟩ : MT), ⟨⟨2, ⟨#[47, 97]⟩⟩, ⟨#[]⟩, [], []⟩] (some 1) :=
        IsBest.less (p := [(⟨⟨2, ⟨#[47]⟩⟩, ⟨#[]⟩, [], []⟩ : MT)]) (f := 0) (IsBest.one (p := []) IsBest.nil (by decide +kernel)) rfl (by decide +kernel) (by
          have e1 : keyX ⟨⟨2, ⟨#[47]⟩⟩, ⟨#[]⟩, [], []⟩ = 1997500 := rfl
          have e2 : keyX ⟨⟨2, ⟨#[47, 97]⟩⟩, ⟨#[]⟩, [], []⟩ = 1992500 := rfl
          rw [e1, e2]; decide)
      exact first_is (c := 31) (c' := 31) ⟨by decide, fun x hx => by
        rcases List.mem_cons.1 hx with rfl | hx
        · exact sm _ _ _ (by decide) (by decide)
        rcases List.mem_cons.1 hx with rfl | hx
        · exact sm _ _ _ (by decide) (by decide)
        · cases hx⟩ _ _ _ small0 small0 (by omega) b1
    · exact (hold_p _ _ _ _ _ (by decide) small0 small0 _ _ _ _ _ small0 small0 2000 (by omega)).trans (congrArg some (by decide +kernel))
    · exact (hold_p _ _ _ _ _ (by decide) small0 small0 _ _ _ _ _ small0 small0 2000 (by omega)).trans (congrArg some (by decide +kernel))
  unfold tolllaw06_awake.f
  rw [if_pos hw]
end Go.Proofs.YtompldnifiieaaaDoor.L
