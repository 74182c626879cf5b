import Derived.Test.YtglghmcdcdljoaaDoorPx0
import Derived.Test.YtglghmcdcdljoaaDoorPx1
import Derived.Test.YtglghmcdcdljoaaDoorPx2
import Derived.Test.YtglghmcdcdljoaaDoorPx3
import Derived.Test.YtglghmcdcdljoaaDoorWWords
import Derived.Laws.Strings
namespace Go.Proofs.YtglghmcdcdljoaaDoor.L
open Go Go.RowKit Go.Proofs.YtglghmcdcdljoaaDoorW.PrintWords

abbrev os (s : ByteArray) : List UInt8 := s.data.toList

theorem toList_os (s : ByteArray) : s.toList = os s := ByteArray.toList_eq s
theorem size_os (s : ByteArray) : s.size = (os s).length := (Array.length_toList (xs := s.data)).symm
theorem os_append (s t : ByteArray) : os (s ++ t) = os s ++ os t := by
  simp [os, ByteArray.data_append]
theorem os_extract (s : ByteArray) (a b : Nat) : os (s.extract a b) = ((os s).drop a).take (b - a) := by
  simp [os, ByteArray.data_extract, Array.toList_extract, List.extract]
theorem bt_os (s : ByteArray) (i : Nat) : bt s (i : Int) = (((os s)[i]?.getD 0).toNat : Int) := by
  unfold bt
  have hs := size_os s
  by_cases h : ((i : Nat) : Int).toNat < s.size
  · rw [dif_pos h]
    have h' : i < (os s).length := by simp at h; omega
    rw [List.getElem?_eq_getElem h']
    rfl
  · rw [dif_neg h]
    have h' : (os s).length ≤ i := by simp at h; omega
    rw [List.getElem?_eq_none h']
    rfl
theorem wrap64_id {x : Int} (h1 : -9223372036854775808 ≤ x) (h2 : x ≤ 9223372036854775807) : wrap64 x = x := by unfold wrap64; omega
end Go.Proofs.YtglghmcdcdljoaaDoor.L
namespace Go.Proofs.YtglghmcdcdljoaaDoor.L
open Go Go.RowKit Go.Proofs.YtglghmcdcdljoaaDoor.P Go.Proofs.YtglghmcdcdljoaaDoorW.PrintWords Go.Proofs.YtglghmcdcdljoaaDoorW.PrintLast

noncomputable def few (s : ByteArray) : ByteArray := if s.size > 100 then s.extract 0 100 else s
theorem few_eq (s : ByteArray) : tolllaw01_Few.f s = some (few s) := by
  unfold tolllaw01_Few.f few
  by_cases h : s.size > 100
  · rw [if_pos (by omega), if_pos (by decide), if_pos (by omega), if_pos h]
  · rw [if_neg (by omega), if_neg h]
theorem few_len (s : ByteArray) : (os (few s)).length ≤ 100 := by
  have hs := size_os s
  unfold few
  by_cases h : s.size > 100
  · rw [if_pos h, os_extract, List.length_take]; omega
  · rw [if_neg h]; omega
theorem hasSuffix (s p : ByteArray) (hl : s.size ≤ 9223372036854775807) : strings_HasSuffix.f s p = some ((os p).isSuffixOf (os s)) := by
  have hs := size_os s
  have hp := size_os p
  unfold strings_HasSuffix.f stringslite_HasSuffix.f
  by_cases h : (s.size : Int) ≥ (p.size : Int)
  · have hw : wrap64 ((s.size : Int) - (p.size : Int)) = ((s.size - p.size : Nat) : Int) := by rw [wrap64_id (by omega) (by omega)]; omega
    rw [if_pos h, hw, if_pos (by omega), if_pos (by omega), Option.bind_some]
    congr 1
    rw [toList_os, toList_os, os_extract, Int.toNat_natCast, Bool.eq_iff_iff, beq_iff_eq, List.isSuffixOf_iff_suffix, List.take_of_length_le (by simp)]
    rw [List.suffix_iff_eq_drop, ← hs, ← hp]
    exact eq_comm
  · rw [if_neg h, Option.bind_some]
    congr 1
    symm
    rw [Bool.eq_false_iff]
    intro hc
    have := (List.isSuffixOf_iff_suffix.1 hc).length_le
    omega
theorem wrapN {i : Nat} (h : i ≤ 100000) : wrap64 ((i : Int) + 1) = ((i + 1 : Nat) : Int) := by rw [wrap64_id (by omega) (by omega)]; omega
theorem rdB (l : List ByteArray) (i : Nat) (h : i < l.length) : rdOf ByteArray.empty l (i : Int) = l[i]'h := by
  unfold rdOf
  rw [Int.toNat_natCast, List.getD_eq_getElem?_getD, List.getElem?_eq_getElem h]; rfl
noncomputable def nm (l : List UInt8) : Bool := decide (l.length ≤ 60) && (pieces 46 ⟨l.toArray⟩).all labB
theorem name_p (s : ByteArray) : dns_Name.f s = some (nm (os s)) := by
  unfold dns_Name.f nm
  rw [size_os s]
noncomputable def star : List UInt8 := [42, 46]
noncomputable def wide (p : List UInt8) : Bool := star.isPrefixOf p
noncomputable def tl (p : List UInt8) : List UInt8 := if wide p = true then p.drop 2 else p
noncomputable def mayH (p : List UInt8) : Bool := decide (p = []) || (decide (p.length ≤ 60) && nm (tl p))
noncomputable def under (h a : List UInt8) : Bool := nm h && (nm a && (46 :: a).isSuffixOf h)
noncomputable def holdsH (p h : List UInt8) : Bool := mayH p && (nm h && (decide (p = []) || (if wide p = true then under h (tl p) else p == h)))
noncomputable def below (p q : List UInt8) : Bool := decide (q = []) || (p == q || (!decide (p = []) && (wide q && under (tl p) (tl q))))
noncomputable def meetO (a b : List UInt8) : Option (List UInt8) := if (mayH a && mayH b) = true then (if below a b = true then some a else if below b a = true then some b else none) else none
theorem tl_plain {p : List UInt8} (h : wide p = false) : tl p = p := by unfold tl; rw [h]; rfl
theorem hasPrefix0 (s p : ByteArray) : stringslite_HasPrefix.f s p = some ((os p).isPrefixOf (os s)) := by
  have hs := size_os s
  have hp := size_os p
  unfold stringslite_HasPrefix.f
  by_cases h : (s.size : Int) ≥ (p.size : Int)
  · rw [if_pos h, if_pos (by omega), if_pos (by omega)]
    congr 1
    rw [toList_os, toList_os, os_extract, List.drop_zero, Nat.sub_zero, hp, Bool.eq_iff_iff, beq_iff_eq, List.isPrefixOf_iff_prefix]
    exact ⟨fun h => by rw [← h]; exact List.take_prefix _ _, fun h => (List.prefix_iff_eq_take.1 h).symm⟩
  · rw [if_neg h]
    congr 1
    symm
    rw [Bool.eq_false_iff]
    intro hc
    have := (List.isPrefixOf_iff_prefix.1 hc).length_le
    omega
theorem cut_p (s : ByteArray) : ∃ t, strings_CutPrefix.f s ⟨#[42, 46]⟩ = some (t, wide (os s)) ∧ os t = tl (os s) := by
  have h1 := hasPrefix0 s ⟨#[42, 46]⟩
  unfold strings_CutPrefix.f stringslite_CutPrefix.f
  rw [h1, Option.bind_some]
  cases hw : (os ⟨#[42, 46]⟩).isPrefixOf (os s) with
  | true =>
    have hs := size_os s
    have hl : 2 ≤ (os s).length := by
      obtain ⟨r, hr⟩ := List.isPrefixOf_iff_prefix.1 hw
      rw [← hr, List.length_append]; show 2 ≤ 2 + _; omega
    rw [if_pos rfl, if_pos (by omega), if_pos (by show (2 : Int) ≤ _; omega), Option.bind_some]
    refine ⟨_, by rw [show wide (os s) = true from hw], ?_⟩
    unfold tl
    rw [show wide (os s) = true from hw, if_pos rfl, os_extract, show (⟨#[42, 46]⟩ : ByteArray).size = 2 from rfl, List.take_of_length_le (by rw [List.length_drop]; omega)]
  | false =>
    rw [if_neg (by decide), Option.bind_some]
    refine ⟨s, by rw [show wide (os s) = false from hw], ?_⟩
    rw [tl_plain hw]
theorem may_h (s : ByteArray) : host_May.f s = some (mayH (os s)) := by
  obtain ⟨t, h1, h2⟩ := cut_p s
  have hs := size_os s
  unfold host_May.f mayH
  rw [h1, Option.bind_some, toList_os, name_p, h2]
  by_cases c : os s = []
  · rw [if_pos c, decide_eq_true c]; rfl
  · rw [if_neg c, decide_eq_false c, Bool.false_or]
    by_cases c2 : (os s).length ≤ 60
    · rw [if_pos (by omega), decide_eq_true c2, Option.bind_some]
      cases nm (tl (os s)) with
      | false => rfl
      | true =>
        rw [if_pos rfl]
        cases hw : wide (os s) with
        | true => rfl
        | false =>
          rw [if_neg (by simp), toList_os, h2, tl_plain hw]
          show some (os s == os s) = some true
          rw [beq_self_eq_true]
    · rw [if_neg (by omega), decide_eq_false c2]; rfl
theorem under_p (h a : ByteArray) (ha : (os a).length ≤ 1000) (hh : (os h).length ≤ 1000) : dns_Under.f h a = some (under (os h) (os a)) := by
  have h1 := size_os a
  have h2 := size_os h
  unfold dns_Under.f under
  rw [name_p, name_p, Option.bind_some]
  cases nm (os h) with
  | false => rfl
  | true =>
    rw [if_pos rfl, Option.bind_some]
    cases nm (os a) with
    | false => rfl
    | true =>
      rw [if_pos rfl, if_pos (by omega), hasSuffix h _ (by omega), os_append]; rfl
theorem holds_h (p h : ByteArray) (hp : (os p).length ≤ 1000) (hh : (os h).length ≤ 1000) (k : Nat) (hk : 1 ≤ k) : host_Holds.f k p h = some (holdsH (os p) (os h)) := by
  obtain ⟨t, h1, h2⟩ := cut_p p
  obtain ⟨k, rfl⟩ : ∃ m, k = m + 1 := ⟨k - 1, by omega⟩
  have htl : (os t).length ≤ 1000 := by
    rw [h2]; unfold tl; split
    · rw [List.length_drop]; omega
    · exact hp
  unfold host_Holds.f holdsH
  rw [h1, Option.bind_some, may_h, Option.bind_some]
  cases mayH (os p) with
  | false => rw [if_neg (by decide), host_Holds.j0, if_pos rfl]; rfl
  | true =>
    rw [if_pos rfl, name_p, Option.bind_some, host_Holds.j0]
    cases nm (os h) with
    | false => rfl
    | true =>
      rw [if_neg (by decide), toList_os, toList_os]
      by_cases c : os p = []
      · rw [if_pos c, decide_eq_true c]; rfl
      · rw [if_neg c, decide_eq_false c]
        cases wide (os p) with
        | true => rw [if_pos rfl, under_p h t htl hh, Option.bind_some, h2]; rfl
        | false => rfl
theorem below_h (a b : ByteArray) (ha : (os a).length ≤ 1000) (hb : (os b).length ≤ 1000) (k : Nat) (hk : 2 ≤ k) : host_below.f k a b = some (below (os a) (os b)) := by
  obtain ⟨t, h1, h2⟩ := cut_p a
  obtain ⟨u, h3, h4⟩ := cut_p b
  obtain ⟨k, rfl⟩ : ∃ m, k = m + 2 := ⟨k - 2, by omega⟩
  have hlen : ∀ {x : ByteArray} {l : List UInt8}, l.length ≤ 1000 → os x = tl l → (os x).length ≤ 1000 := fun {x l} hl e => by
    rw [e]; unfold tl; split
    · rw [List.length_drop]; omega
    · exact hl
  have ht := hlen ha h2
  have hu := hlen hb h4
  unfold host_below.f below
  rw [h1, Option.bind_some, h3, Option.bind_some, toList_os]
  by_cases c : os b = []
  · rw [if_pos c, decide_eq_true c, host_below.j0, if_pos rfl]; rfl
  · rw [if_neg c, decide_eq_false c, host_below.j0, toList_os]
    cases os a == os b with
    | true => rfl
    | false =>
      rw [if_neg (by decide)]
      by_cases c2 : os a = []
      · rw [if_pos c2, decide_eq_true c2, host_below.j1, if_pos rfl]; rfl
      · rw [if_neg c2, decide_eq_false c2, host_below.j1]
        cases wide (os b) with
        | false => rfl
        | true =>
          rw [if_neg (by simp)]
          cases hw : wide (os a) with
          | true => rw [if_pos rfl, under_p t u hu ht, Option.bind_some, h2, h4]; rfl
          | false => rw [if_neg (by simp), under_p a u hu ha, Option.bind_some, h4, tl_plain hw]; rfl
theorem meet_h (a b : ByteArray) (ha : (os a).length ≤ 1000) (hb : (os b).length ≤ 1000) (k : Nat) (hk : 3 ≤ k) : ∃ t, host_Meet.f k a b = some (t, (meetO (os a) (os b)).isSome) ∧ os t = (meetO (os a) (os b)).getD [] ∧ (os t).length ≤ 1000 := by
  obtain ⟨k, rfl⟩ : ∃ m, k = m + 1 := ⟨k - 1, by omega⟩
  unfold host_Meet.f meetO
  rw [may_h, may_h, Option.bind_some, Option.bind_some]
  cases mayH (os a) with
  | false => rw [if_neg (by decide), host_Meet.j0, if_pos rfl]; exact ⟨_, rfl, rfl, by decide⟩
  | true =>
    rw [if_pos rfl, host_Meet.j0]
    cases mayH (os b) with
    | false => exact ⟨_, rfl, rfl, by decide⟩
    | true =>
      rw [if_neg (by decide), below_h a b ha hb k (by omega), Option.bind_some, if_pos (show (true && true) = true from rfl)]
      cases below (os a) (os b) with
      | true => exact ⟨a, rfl, rfl, ha⟩
      | false =>
        rw [if_neg (show ¬ false = true by decide), if_neg (show ¬ false = true by decide), below_h b a hb ha k (by omega), Option.bind_some]
        cases below (os b) (os a) with
        | true => exact ⟨b, rfl, rfl, hb⟩
        | false => exact ⟨_, rfl, rfl, by decide⟩
end Go.Proofs.YtglghmcdcdljoaaDoor.L
namespace Go.Proofs.YtglghmcdcdljoaaDoor.L
open Go Go.RowKit Go.Proofs.YtglghmcdcdljoaaDoor.P Go.Proofs.YtglghmcdcdljoaaDoorW.PrintWords Go.Proofs.YtglghmcdcdljoaaDoorW.PrintLast

noncomputable def splitL (c : UInt8) : List UInt8 → List (List UInt8)
  | [] => [[]]
  | x :: r => if x = c then [] :: splitL c r else (x :: (splitL c r).headD []) :: (splitL c r).tail
theorem splitL_ne (c : UInt8) : ∀ l, splitL c l ≠ []
  | [] => by rw [splitL]; simp
  | x :: r => by rw [splitL]; split <;> simp
theorem splitL_cons {c : UInt8} {l : List UInt8} : ∃ h t, splitL c l = h :: t := by
  cases h : splitL c l with
  | nil => exact absurd h (splitL_ne c l)
  | cons a b => exact ⟨a, b, rfl⟩
theorem splitL_free {c : UInt8} : ∀ {u : List UInt8}, c ∉ u → splitL c u = [u]
  | [], _ => rfl
  | x :: r, h => by
    have hx : x ≠ c := fun e => h (by rw [e]; simp)
    rw [splitL, if_neg hx, splitL_free (u := r) (fun hm => h (List.mem_cons_of_mem _ hm))]; rfl
theorem splitL_at {c : UInt8} : ∀ {u : List UInt8} (v : List UInt8), c ∉ u → splitL c (u ++ c :: v) = u :: splitL c v
  | [], v, _ => by rw [List.nil_append, splitL, if_pos rfl]
  | x :: r, v, h => by
    have hx : x ≠ c := fun e => h (by rw [e]; simp)
    rw [List.cons_append, splitL, if_neg hx, splitL_at v (fun hm => h (List.mem_cons_of_mem _ hm))]; rfl
theorem get_bang (s : ByteArray) (i : Nat) (h : i < (os s).length) : s[i]! = (os s)[i]'h := by
  have hs := size_os s
  rw [getElem!_pos s i (by omega)]
  rfl
theorem firstIdx_two (s : ByteArray) (c : UInt8) : (firstIdx s c = -1 ∧ c ∉ os s) ∨ ∃ i : Nat, firstIdx s c = (i : Int) ∧ ∃ h : i < (os s).length, c ∉ (os s).take i ∧ (os s)[i] = c := by
  have hs := size_os s
  unfold firstIdx
  cases hf : (List.range s.size).find? (fun i => s[i]! == c) with
  | none =>
    left
    refine ⟨rfl, fun hm => ?_⟩
    obtain ⟨i, hi, hc⟩ := List.getElem_of_mem hm
    have := List.find?_eq_none.1 hf i (List.mem_range.2 (by omega))
    rw [get_bang s i hi, hc] at this
    simp at this
  | some i =>
    right
    have hi := List.mem_range.1 (List.mem_of_find?_eq_some hf)
    have hil : i < (os s).length := by omega
    refine ⟨i, rfl, hil, fun hm => ?_, ?_⟩
    · obtain ⟨j, hj, hc⟩ := List.getElem_of_mem hm
      rw [List.length_take] at hj
      rw [List.getElem_take] at hc
      have h1 := (List.find?_eq_some_iff_getElem.1 hf).2
      obtain ⟨k, hk, hki, hlt⟩ := h1
      rw [List.length_range] at hk
      rw [List.getElem_range] at hki
      subst hki
      have := hlt j (by omega)
      rw [List.getElem_range, get_bang s j (by omega), hc] at this
      simp at this
    · have := List.find?_some hf
      rw [get_bang s i hil] at this
      exact eq_of_beq this
theorem pieces_p (c : UInt8) : ∀ (n : Nat) (s : ByteArray), (os s).length ≤ n → (pieces c s).map os = splitL c (os s) := by
  intro n
  induction n with
  | zero =>
    intro s h
    rcases firstIdx_two s c with ⟨h1, h2⟩ | ⟨i, _, h2, _⟩
    · unfold pieces
      rw [cuts_neg (by rw [h1]; decide), splitL_free h2]; rfl
    · omega
  | succ n ih =>
    intro s h
    have hs := size_os s
    rcases firstIdx_two s c with ⟨h1, h2⟩ | ⟨i, h1, h2, h3, h4⟩
    · unfold pieces
      rw [cuts_neg (by rw [h1]; decide), splitL_free h2]; rfl
    · have e := cuts_cons (fun t => firstIdx t c) 1 (Nat.le_refl _) (fun t h => firstIdx_fit c t h) (s := s) (i := i) h1
      have e2 : os s = (os s).take i ++ c :: (os s).drop (i + 1) := by
        conv => lhs; rw [← List.take_append_drop i (os s), List.drop_eq_getElem_cons h2, h4]
      have e3 : os (s.extract (i + 1) s.size) = (os s).drop (i + 1) := by rw [os_extract, List.take_of_length_le (by rw [List.length_drop]; omega)]
      have e4 : os (s.extract 0 i) = (os s).take i := by rw [os_extract, List.drop_zero, Nat.sub_zero]
      have := ih (s.extract (i + 1) s.size) (by rw [e3, List.length_drop]; omega)
      unfold pieces at this ⊢
      rw [e, List.map_cons, this, e3, e4]
      conv => rhs; rw [e2]
      rw [splitL_at _ h3]
noncomputable def octL (c : UInt8) : Bool := (decide (97 ≤ c.toNat) && decide (c.toNat ≤ 122)) || ((decide (48 ≤ c.toNat) && decide (c.toNat ≤ 57)) || c.toNat == 45)
noncomputable def labL (l : List UInt8) : Bool := decide (l ≠ []) && (decide (l.length ≤ 20) && (l.all octL && (decide (l.head? ≠ some 45) && decide (l.getLast? ≠ some 45))))
theorem lab_p (s : ByteArray) : labB s = labL (os s) := by
  have hs := size_os s
  have h0 : dns_Label.f s = some (labL (os s)) := by
    unfold dns_Label.f labL strings_IndexFunc_with_dns_Label_1.f
    rw [Option.bind_some, toList_os]
    have hi := idxRune_neg strings_IndexFunc_with_dns_Label_1.p (fun r hr => by
      unfold strings_IndexFunc_with_dns_Label_1.p octB
      rw [decide_eq_false (show ¬ r ≤ 122 by omega), decide_eq_false (show ¬ r ≤ 57 by omega), beq_eq_false_iff_ne.2 (show r ≠ 45 by omega)]
      simp) s
    have hall : (s.data.toList.all fun c => !strings_IndexFunc_with_dns_Label_1.p c.toNat) = (os s).all octL := by
      congr 1
      funext c
      unfold strings_IndexFunc_with_dns_Label_1.p octB octL
      rw [Bool.not_not]
    rw [hall] at hi
    by_cases c1 : os s = []
    · rw [if_pos c1, c1]; rfl
    · rw [if_neg c1, decide_eq_true (show os s ≠ [] from c1), Bool.true_and]
      have hl : 0 < (os s).length := by cases h : os s with | nil => exact absurd h c1 | cons => simp
      by_cases c2 : (os s).length ≤ 20
      · rw [if_pos (by omega), decide_eq_true c2, Bool.true_and, wrap64_id (by omega) (by omega)]
        by_cases c3 : idxRune strings_IndexFunc_with_dns_Label_1.p s < 0
        · rw [if_pos c3, if_pos (by omega)]
          rw [decide_eq_true c3] at hi
          rw [← hi, Bool.true_and]
          have b0 : bt s 0 = (((os s)[0]'hl).toNat : Int) := by
            have := bt_os s 0
            rw [List.getElem?_eq_getElem hl] at this
            exact this
          have b1 : bt s ((s.size : Int) - 1) = (((os s)[(os s).length - 1]'(by omega)).toNat : Int) := by
            have := bt_os s ((os s).length - 1)
            rw [List.getElem?_eq_getElem (show (os s).length - 1 < (os s).length by omega)] at this
            rw [show (s.size : Int) - 1 = (((os s).length - 1 : Nat) : Int) by omega]
            exact this
          have g0 : (os s).head? = some ((os s)[0]'hl) := by rw [List.head?_eq_getElem?, List.getElem?_eq_getElem hl]
          have g1 : (os s).getLast? = some ((os s)[(os s).length - 1]'(by omega)) := by rw [List.getLast?_eq_getElem?, List.getElem?_eq_getElem (by omega)]
          have hb : ∀ c : UInt8, ((c.toNat : Int) = 45) ↔ c = 45 := fun c => ⟨fun h => by
            apply UInt8.toNat_inj.1
            show c.toNat = 45
            omega, fun h => by rw [h]; rfl⟩
          rw [b0, g0]
          by_cases c4 : (os s)[0]'hl = 45
          · rw [if_pos ((hb _).2 c4), c4, decide_eq_false (show ¬ some (45 : UInt8) ≠ some 45 by decide)]; rfl
          · rw [if_neg (fun h => c4 ((hb _).1 h)), if_pos (by omega), if_pos (by omega), b1, g1, decide_eq_true (show some ((os s)[0]'hl) ≠ some 45 from fun h => c4 (Option.some.inj h)), Bool.true_and]
            congr 1
            rw [Bool.eq_iff_iff, bne_iff_ne, decide_eq_true_iff]
            exact ⟨fun h h2 => h ((hb _).2 (Option.some.inj h2)), fun h h2 => h (by rw [(hb _).1 h2])⟩
        · rw [if_neg c3]
          rw [decide_eq_false c3] at hi
          rw [← hi]; rfl
      · rw [if_neg (by omega), decide_eq_false c2]; rfl
  unfold labB
  rw [h0]
  cases labL (os s) <;> rfl
noncomputable def nameL (l : List UInt8) : Bool := decide (l.length ≤ 60) && (splitL 46 l).all labL
theorem nm_eq (l : List UInt8) : nm l = nameL l := by
  unfold nm nameL
  have := pieces_p 46 l.length ⟨l.toArray⟩ (Nat.le_refl _)
  rw [show os (⟨l.toArray⟩ : ByteArray) = l from rfl] at this
  rw [← this, List.all_map]
  congr 1
  congr 1
  funext s
  exact lab_p s
end Go.Proofs.YtglghmcdcdljoaaDoor.L
namespace Go.Proofs.YtglghmcdcdljoaaDoor.L
open Go Go.RowKit Go.Proofs.YtglghmcdcdljoaaDoor.P Go.Proofs.YtglghmcdcdljoaaDoorW.PrintWords Go.Proofs.YtglghmcdcdljoaaDoorW.PrintLast

noncomputable def nb (s : ByteArray) : List UInt8 := (os s).map dns_Fold.b
theorem fold_p (s : ByteArray) (h : (os s).length ≤ 1000) : dns_Fold.f s = some ⟨(nb s).toArray⟩ := by
  unfold dns_Fold.f
  have hs := size_os s
  rw [if_pos (by omega)]; rfl
noncomputable def lastN (c : Int) (l : List UInt8) : Nat → Int
  | 0 => -1
  | n + 1 => if ((l[n]?.getD 0).toNat : Int) = c then (n : Int) else lastN c l n
theorem lastN_bound (c : Int) (l : List UInt8) : ∀ n, -1 ≤ lastN c l n ∧ lastN c l n < n
  | 0 => by rw [lastN]; omega
  | n + 1 => by
    have := lastN_bound c l n
    rw [lastN]; split <;> omega
theorem last_loop (s : ByteArray) (c : Int) (hs : (os s).length ≤ 1000) : ∀ (n k : Nat), n ≤ (os s).length → n + 1 ≤ k → bytealg_LastIndexByteString.l0 k s c ((n : Int) - 1) = some (lastN c (os s) n) := by
  have hz := size_os s
  intro n
  induction n with
  | zero =>
    intro k h1 h2
    obtain ⟨k, rfl⟩ : ∃ m, k = m + 1 := ⟨k - 1, by omega⟩
    rw [bytealg_LastIndexByteString.l0, if_neg (by omega), lastN]
  | succ n ih =>
    intro k h1 h2
    obtain ⟨k, rfl⟩ : ∃ m, k = m + 1 := ⟨k - 1, by omega⟩
    rw [bytealg_LastIndexByteString.l0, if_pos (by omega), if_pos (by omega), if_pos (by omega), show ((n + 1 : Nat) : Int) - 1 = (n : Int) by omega, bt_os, lastN, wrap64_id (by omega) (by omega), ih k (by omega) (by omega)]
    split <;> rfl
theorem last_p (s : ByteArray) (c : Int) (hs : (os s).length ≤ 1000) (k : Nat) (hk : 1002 ≤ k) : strings_LastIndexByte.f k s c = some (lastN c (os s) (os s).length) := by
  have hz := size_os s
  unfold strings_LastIndexByte.f bytealg_LastIndexByteString.f
  rw [wrap64_id (by omega) (by omega), hz, last_loop s c hs _ k (Nat.le_refl _) (by omega), Option.bind_some]
noncomputable def digits : List UInt8 := [48, 49, 50, 51, 52, 53, 54, 55, 56, 57]
noncomputable def portL (l : List UInt8) : Bool := decide (1 ≤ l.length) && (decide (l.length ≤ 5) && (Go.Lib.trimS l digits == []))
theorem port_p (s : ByteArray) (hs : (os s).length ≤ 1000) : host_port.f s = some (portL (os s)) := by
  have hz := size_os s
  have ht : strings_Trim.f s ⟨#[48, 49, 50, 51, 52, 53, 54, 55, 56, 57]⟩ = some ⟨(Go.Lib.trimS (os s) digits).toArray⟩ := by
    unfold strings_Trim.f
    rw [if_pos (by omega), if_pos (by decide), if_pos (by decide)]; rfl
  unfold host_port.f portL
  by_cases c1 : 1 ≤ (os s).length
  · rw [if_pos (by omega), decide_eq_true c1]
    by_cases c2 : (os s).length ≤ 5
    · rw [if_pos (by omega), decide_eq_true c2, ht, Option.bind_some, toList_os]; rfl
    · rw [if_neg (by omega), decide_eq_false c2]; rfl
  · rw [if_neg (by omega), decide_eq_false c1]; rfl
theorem suffix_p (s p : ByteArray) (hl : s.size ≤ 9223372036854775807) : stringslite_HasSuffix.f s p = some ((os p).isSuffixOf (os s)) := by
  have hs := size_os s
  have hp := size_os p
  unfold stringslite_HasSuffix.f
  by_cases h : (s.size : Int) ≥ (p.size : Int)
  · have hw : wrap64 ((s.size : Int) - (p.size : Int)) = ((s.size - p.size : Nat) : Int) := by rw [wrap64_id (by omega) (by omega)]; omega
    rw [if_pos h, hw, if_pos (by omega), if_pos (by omega)]
    congr 1
    rw [toList_os, toList_os, os_extract, Int.toNat_natCast, Bool.eq_iff_iff, beq_iff_eq, List.isSuffixOf_iff_suffix, List.take_of_length_le (by simp)]
    rw [List.suffix_iff_eq_drop, ← hs, ← hp]
    exact eq_comm
  · rw [if_neg h]
    congr 1
    symm
    rw [Bool.eq_false_iff]
    intro hc
    have := (List.isSuffixOf_iff_suffix.1 hc).length_le
    omega
theorem trimSuffix_p (s p : ByteArray) (hs : (os s).length ≤ 1000) : ∃ t, strings_TrimSuffix.f s p = some t ∧ os t = if (os p).isSuffixOf (os s) = true then (os s).take ((os s).length - (os p).length) else os s := by
  have hz := size_os s
  have hz2 := size_os p
  unfold strings_TrimSuffix.f stringslite_TrimSuffix.f
  rw [suffix_p s p (by omega), Option.bind_some]
  cases hp : (os p).isSuffixOf (os s) with
  | true =>
    have := (List.isSuffixOf_iff_suffix.1 hp).length_le
    have hw : wrap64 ((s.size : Int) - (p.size : Int)) = ((s.size - p.size : Nat) : Int) := by rw [wrap64_id (by omega) (by omega)]; omega
    rw [if_pos rfl, if_pos rfl, hw, if_pos (by omega), if_pos (by omega), Option.bind_some, Int.toNat_natCast]
    exact ⟨_, rfl, by rw [os_extract, List.drop_zero, Nat.sub_zero, hz, hz2]⟩
  | false =>
    rw [if_neg (by decide), if_neg (by decide), Option.bind_some]
    exact ⟨_, rfl, rfl⟩
noncomputable def noPort (f : List UInt8) : List UInt8 := if (decide (0 ≤ lastN 58 f f.length) && portL (f.drop ((lastN 58 f f.length).toNat + 1))) = true then f.take (lastN 58 f f.length).toNat else f
noncomputable def noDot (g : List UInt8) : List UInt8 := if [46].isSuffixOf g = true then g.take (g.length - 1) else g
noncomputable def ofH (l : List UInt8) : List UInt8 × Int := if nm (noDot (noPort (l.map dns_Fold.b))) = true then (noDot (noPort (l.map dns_Fold.b)), 0) else ([], 2)
theorem of_j1 (x : ByteArray) (hx : (os x).length ≤ 1000) (k : Nat) : ∃ t, host_Of.j1 (k + 1) x = some (t, if nm (noDot (os x)) = true then 0 else 2) ∧ os t = if nm (noDot (os x)) = true then noDot (os x) else [] := by
  obtain ⟨t, h1, h2⟩ := trimSuffix_p x ⟨#[46]⟩ hx
  have h3 : os t = noDot (os x) := h2
  rw [host_Of.j1, h1, Option.bind_some, name_p, Option.bind_some, h3]
  cases nm (noDot (os x)) with
  | true => exact ⟨_, rfl, h3⟩
  | false => exact ⟨_, rfl, rfl⟩
theorem of_h (s : ByteArray) (hs : (os s).length ≤ 100) (k : Nat) (hk : 1010 ≤ k) : ∃ t, host_Of.f k s = some (t, (ofH (os s)).2) ∧ os t = (ofH (os s)).1 := by
  obtain ⟨k, rfl⟩ : ∃ m, k = m + 2 := ⟨k - 2, by omega⟩
  obtain ⟨F, hF⟩ : ∃ F : ByteArray, F = ⟨(nb s).toArray⟩ := ⟨_, rfl⟩
  have hF1 : os F = (os s).map dns_Fold.b := by rw [hF]; rfl
  have hF2 : (os F).length ≤ 100 := by rw [hF1, List.length_map]; exact hs
  have hz := size_os F
  have hb := lastN_bound 58 (os F) (os F).length
  have fin : ∀ x : ByteArray, (os x).length ≤ 1000 → os x = noPort (os F) → ∃ t, host_Of.j1 (k + 1) x = some (t, (ofH (os s)).2) ∧ os t = (ofH (os s)).1 := fun x hx e => by
    obtain ⟨t, h1, h2⟩ := of_j1 x hx k
    refine ⟨t, ?_, ?_⟩
    · rw [h1, e, hF1]; unfold ofH; split <;> rfl
    · rw [h2, e, hF1]; unfold ofH; split <;> rfl
  unfold host_Of.f
  rw [fold_p s (by omega), ← hF, Option.bind_some, last_p F 58 (by omega) _ (by omega), Option.bind_some]
  by_cases c : 0 ≤ lastN 58 (os F) (os F).length
  · have e1 : os (F.extract (wrap64 (lastN 58 (os F) (os F).length + 1)).toNat F.size) = (os F).drop ((lastN 58 (os F) (os F).length).toNat + 1) := by
      rw [wrap64_id (by omega) (by omega), os_extract, List.take_of_length_le (by rw [List.length_drop]; omega)]
      congr 1; omega
    rw [if_pos c, if_pos (by rw [wrap64_id (by omega) (by omega)]; omega), if_pos (by rw [wrap64_id (by omega) (by omega)]; omega), port_p _ (by rw [e1, List.length_drop]; omega), e1, Option.bind_some, host_Of.j0]
    cases hp : portL ((os F).drop ((lastN 58 (os F) (os F).length).toNat + 1)) with
    | true =>
      rw [if_pos rfl, if_pos c, if_pos (by omega)]
      refine fin _ (by rw [os_extract, List.length_take]; omega) ?_
      unfold noPort
      rw [decide_eq_true c, hp, if_pos (show (true && true) = true from rfl), os_extract, List.drop_zero, Nat.sub_zero]
    | false =>
      rw [if_neg (by decide)]
      refine fin F (by omega) ?_
      unfold noPort
      rw [hp, Bool.and_false, if_neg (by decide)]
  · rw [if_neg c, host_Of.j0, if_neg (by decide)]
    refine fin F (by omega) ?_
    unfold noPort
    rw [decide_eq_false c, Bool.false_and, if_neg (by decide)]
theorem host_awake (k : Nat) (hk : 1100 ≤ k) : tolllaw02_awake.f k = some true := by
  obtain ⟨t1, a1, b1, _⟩ := meet_h ⟨#[42, 46, 97, 46, 98]⟩ ⟨#[42, 46, 98]⟩ (by decide) (by decide) k (by omega)
  obtain ⟨t2, a2, b2, _⟩ := meet_h ⟨#[120, 46, 97, 46, 98]⟩ ⟨#[42, 46, 98]⟩ (by decide) (by decide) k (by omega)
  obtain ⟨t3, a3, b3, _⟩ := meet_h ⟨#[42, 46, 97]⟩ ⟨#[42, 46, 98]⟩ (by decide) (by decide) k (by omega)
  obtain ⟨t4, a4, b4⟩ := of_h ⟨#[87, 101, 98, 46, 84, 101, 115, 116, 46, 58, 56, 48, 56, 48]⟩ (by decide) k (by omega)
  have e1 : meetO [42, 46, 97, 46, 98] [42, 46, 98] = some [42, 46, 97, 46, 98] := by
    unfold meetO mayH below under; simp only [nm_eq]; decide +kernel
  have e2 : meetO [120, 46, 97, 46, 98] [42, 46, 98] = some [120, 46, 97, 46, 98] := by
    unfold meetO mayH below under; simp only [nm_eq]; decide +kernel
  have e3 : meetO [42, 46, 97] [42, 46, 98] = none := by
    unfold meetO mayH below under; simp only [nm_eq]; decide +kernel
  have e4 : ofH [87, 101, 98, 46, 84, 101, 115, 116, 46, 58, 56, 48, 56, 48] = ([119, 101, 98, 46, 116, 101, 115, 116], 0) := by
    unfold ofH; simp only [nm_eq]; decide +kernel
  have e5 : holdsH [42, 46, 98] [98] = false := by
    unfold holdsH mayH under; simp only [nm_eq]; decide +kernel
  have c1 : os t1 = [42, 46, 97, 46, 98] := by rw [b1, show os (⟨#[42, 46, 97, 46, 98]⟩ : ByteArray) = [42, 46, 97, 46, 98] from rfl, show os (⟨#[42, 46, 98]⟩ : ByteArray) = [42, 46, 98] from rfl, e1]; rfl
  have c2 : os t2 = [120, 46, 97, 46, 98] := by rw [b2, show os (⟨#[120, 46, 97, 46, 98]⟩ : ByteArray) = [120, 46, 97, 46, 98] from rfl, show os (⟨#[42, 46, 98]⟩ : ByteArray) = [42, 46, 98] from rfl, e2]; rfl
  rw [show os (⟨#[42, 46, 97, 46, 98]⟩ : ByteArray) = [42, 46, 97, 46, 98] from rfl, show os (⟨#[42, 46, 98]⟩ : ByteArray) = [42, 46, 98] from rfl, e1] at a1
  rw [show os (⟨#[120, 46, 97, 46, 98]⟩ : ByteArray) = [120, 46, 97, 46, 98] from rfl, show os (⟨#[42, 46, 98]⟩ : ByteArray) = [42, 46, 98] from rfl, e2] at a2
  rw [show os (⟨#[42, 46, 97]⟩ : ByteArray) = [42, 46, 97] from rfl, show os (⟨#[42, 46, 98]⟩ : ByteArray) = [42, 46, 98] from rfl, e3] at a3
  rw [show os (⟨#[87, 101, 98, 46, 84, 101, 115, 116, 46, 58, 56, 48, 56, 48]⟩ : ByteArray) = [87, 101, 98, 46, 84, 101, 115, 116, 46, 58, 56, 48, 56, 48] from rfl, e4] at a4 b4
  unfold tolllaw02_awake.f
  rw [a1, Option.bind_some, a2, Option.bind_some, a3, Option.bind_some, a4, Option.bind_some]
  dsimp only [Option.isSome]
  rw [toList_os, toList_os, toList_os, c1, c2, b4, if_pos rfl, if_pos rfl, if_pos rfl, if_pos rfl, if_neg (by decide), holds_h _ _ (by decide) (by decide) k (by omega), Option.bind_some, show os (⟨#[42, 46, 98]⟩ : ByteArray) = [42, 46, 98] from rfl, show os (⟨#[98]⟩ : ByteArray) = [98] from rfl, e5, if_neg (by decide), if_pos rfl]
  rfl
end Go.Proofs.YtglghmcdcdljoaaDoor.L
namespace Go.Proofs.YtglghmcdcdljoaaDoor.L
open Go Go.RowKit Go.Proofs.YtglghmcdcdljoaaDoor.P Go.Proofs.YtglghmcdcdljoaaDoorW.PrintWords Go.Proofs.YtglghmcdcdljoaaDoorW.PrintLast

end Go.Proofs.YtglghmcdcdljoaaDoor.L
namespace Go.Proofs.YtglghmcdcdljoaaDoor.L
structure Cmp {α : Type} (R : α → α → Int) : Prop where
  anti : ∀ x y, R y x = -R x y
  le : ∀ {x y z}, R x y ≤ 0 → R y z ≤ 0 → R x z ≤ 0
  lt : ∀ {x y z}, R x y < 0 → R y z ≤ 0 → R x z < 0
theorem Cmp.self {α : Type} {R : α → α → Int} (h : Cmp R) (x : α) : R x x = 0 := by have := h.anti x x; omega
theorem Cmp.not {α : Type} {R : α → α → Int} (h : Cmp R) {x y : α} (hn : ¬ R y x < 0) : R x y ≤ 0 := by have := h.anti x y; omega
variable {α : Type} {hold : α → Bool} {R : α → α → Int}
noncomputable def BestOf (hold : α → Bool) (R : α → α → Int) (l : List α) (f : Nat) : Prop := ∃ x, l[f]? = some x ∧ hold x = true ∧ (∀ y ∈ l, hold y = true → R x y ≤ 0) ∧ ∀ j y, j < f → l[j]? = some y → hold y = true → R x y < 0
noncomputable def IsOf (hold : α → Bool) (R : α → α → Int) (l : List α) : Option Nat → Prop
  | none => ∀ y ∈ l, hold y = false
  | some f => BestOf hold R l f
theorem getE_snoc {p : List α} {y z : α} {j : Nat} (h : (p ++ [y])[j]? = some z) : (j < p.length ∧ p[j]? = some z) ∨ (j = p.length ∧ z = y) := by
  rcases Nat.lt_or_ge j p.length with c | c
  · rw [List.getElem?_append_left c] at h; exact .inl ⟨c, h⟩
  · rw [List.getElem?_append_right c] at h
    rcases Nat.eq_zero_or_pos (j - p.length) with e | e
    · rw [e] at h; simp at h; exact .inr ⟨by omega, h.symm⟩
    · rw [List.getElem?_eq_none (by simp; omega)] at h; cases h
theorem getE_len {l : List α} {j : Nat} {x : α} (h : l[j]? = some x) : j < l.length := (List.getElem?_eq_some_iff.1 h).1
theorem IsOf.nil : IsOf hold R ([] : List α) none := fun _ h => by cases h
theorem IsOf.no {p : List α} {y : α} {o : Option Nat} (h : IsOf hold R p o) (hy : hold y = false) : IsOf hold R (p ++ [y]) o := by
  cases o with
  | none =>
    intro z hz
    rcases List.mem_append.1 hz with hz | hz
    · exact h z hz
    · rw [List.mem_singleton.1 hz]; exact hy
  | some f =>
    obtain ⟨x, h1, h2, h3, h4⟩ := h
    refine ⟨x, by rw [List.getElem?_append_left (getE_len h1)]; exact h1, h2, fun z hz hh => ?_, fun j z hj hz hh => ?_⟩
    · rcases List.mem_append.1 hz with hz | hz
      · exact h3 z hz hh
      · rw [List.mem_singleton.1 hz, hy] at hh; cases hh
    · rcases getE_snoc hz with ⟨_, hz⟩ | ⟨_, hz⟩
      · exact h4 j z hj hz hh
      · rw [hz, hy] at hh; cases hh
theorem IsOf.one {p : List α} {y : α} (h : IsOf hold R p none) (hc : Cmp R) (hy : hold y = true) : IsOf hold R (p ++ [y]) (some p.length) := by
  refine ⟨y, by simp, hy, fun z hz hh => ?_, fun j z hj hz hh => ?_⟩
  · rcases List.mem_append.1 hz with hz | hz
    · rw [h z hz] at hh; cases hh
    · rw [List.mem_singleton.1 hz]; exact Int.le_of_eq (hc.self _)
  · rcases getE_snoc hz with ⟨hl, hz⟩ | ⟨hl, hz⟩
    · rw [h z (List.mem_of_getElem? hz)] at hh; cases hh
    · omega
end Go.Proofs.YtglghmcdcdljoaaDoor.L
namespace Go.Proofs.YtglghmcdcdljoaaDoor.L
open Go Go.RowKit Go.Proofs.YtglghmcdcdljoaaDoor.P Go.Proofs.YtglghmcdcdljoaaDoorW.PrintWords Go.Proofs.YtglghmcdcdljoaaDoorW.PrintLast
end Go.Proofs.YtglghmcdcdljoaaDoor.L
namespace Go.Proofs.YtglghmcdcdljoaaDoor.L
open Go Go.RowKit Go.Proofs.YtglghmcdcdljoaaDoor.P Go.Proofs.YtglghmcdcdljoaaDoorW.PrintWords Go.Proofs.YtglghmcdcdljoaaDoorW.PrintLast

theorem bt_n {s : ByteArray} {i : Nat} (h : i < (os s).length) : bt s (i : Int) = (((os s)[i]'h).toNat : Int) := by
  rw [bt_os, List.getElem?_eq_getElem h]; rfl
noncomputable def okP (c i n : Nat) : Prop := (97 ≤ c ∧ c ≤ 122) ∨ (48 ≤ c ∧ c ≤ 57) ∨ (c = 45 ∧ i ≠ 0 ∧ i + 1 ≠ n)
instance (c i n : Nat) : Decidable (okP c i n) := by unfold okP; exact inferInstance
theorem label_step (s : ByteArray) (hs : (os s).length ≤ 1000) (i k : Nat) (hi : i < (os s).length) : tollref01_Label.l0 (k + 1) s (i : Int) = if okP ((os s)[i]'hi).toNat i (os s).length then tollref01_Label.l0 k s ((i + 1 : Nat) : Int) else some false := by
  have hz := size_os s
  rw [tollref01_Label.l0, if_pos (by omega), if_pos (by omega), bt_n hi, wrapN (by omega), wrap64_id (x := (s.size : Int) - 1) (by omega) (by omega)]
  generalize tollref01_Label.l0 k s ((i + 1 : Nat) : Int) = X
  generalize ((os s)[i]'hi).toNat = c
  by_cases hok : okP c i (os s).length
  · rw [if_pos hok]
    unfold okP at hok
    repeat' split
    all_goals first | rfl | (exfalso; omega)
  · rw [if_neg hok]
    unfold okP at hok
    repeat' split
    all_goals first | rfl | (exfalso; omega)
theorem label_loop (s : ByteArray) (hs : (os s).length ≤ 1000) : ∀ (n i k : Nat), (os s).length - i = n → i ≤ (os s).length → n + 1 ≤ k → ∃ b, tollref01_Label.l0 k s (i : Int) = some b ∧ (b = true ↔ (1 ≤ (os s).length ∧ (os s).length ≤ 20) ∧ ∀ j (hj : j < (os s).length), i ≤ j → okP ((os s)[j]'hj).toNat j (os s).length) := by
  have hz := size_os s
  intro n
  induction n with
  | zero =>
    intro i k h1 h2 h3
    obtain ⟨k, rfl⟩ : ∃ m, k = m + 1 := ⟨k - 1, by omega⟩
    obtain rfl : i = (os s).length := by omega
    rw [tollref01_Label.l0, if_neg (by omega)]
    by_cases c : 1 ≤ (os s).length
    · rw [if_pos (by omega)]
      exact ⟨_, rfl, by rw [decide_eq_true_iff]; exact ⟨fun h => ⟨⟨c, by omega⟩, fun j hj hij => by omega⟩, fun h => by omega⟩⟩
    · rw [if_neg (by omega)]
      exact ⟨_, rfl, ⟨fun h => (by cases h), fun h => absurd h.1.1 c⟩⟩
  | succ n ih =>
    intro i k h1 h2 h3
    obtain ⟨k, rfl⟩ : ∃ m, k = m + 1 := ⟨k - 1, by omega⟩
    have hi : i < (os s).length := by omega
    rw [label_step s hs i k hi]
    by_cases hok : okP ((os s)[i]'hi).toNat i (os s).length
    · rw [if_pos hok]
      obtain ⟨b, h4, h5⟩ := ih (i + 1) k (by omega) (by omega) (by omega)
      refine ⟨b, h4, h5.trans ⟨fun h => ⟨h.1, fun j hj hij => ?_⟩, fun h => ⟨h.1, fun j hj hij => h.2 j hj (by omega)⟩⟩⟩
      rcases Nat.lt_or_ge i j with c | c
      · exact h.2 j hj (by omega)
      · obtain rfl : j = i := by omega
        exact hok
    · rw [if_neg hok]
      exact ⟨false, rfl, ⟨fun h => (by cases h), fun h => absurd (h.2 i hi (Nat.le_refl _)) hok⟩⟩
theorem labL_iff (l : List UInt8) : labL l = true ↔ (1 ≤ l.length ∧ l.length ≤ 20) ∧ ∀ j (hj : j < l.length), okP (l[j]'hj).toNat j l.length := by
  unfold labL
  simp only [Bool.and_eq_true, decide_eq_true_eq, List.all_eq_true]
  have h45 : ∀ c : UInt8, c.toNat = 45 ↔ c = 45 := fun c => ⟨fun h => UInt8.toNat_inj.1 h, fun h => by rw [h]; rfl⟩
  constructor
  · rintro ⟨h1, h2, h3, h4, h5⟩
    have hl : 0 < l.length := by cases l with | nil => exact absurd rfl h1 | cons => simp
    refine ⟨⟨hl, h2⟩, fun j hj => ?_⟩
    have ho := h3 _ (List.getElem_mem hj)
    unfold octL at ho
    simp only [Bool.or_eq_true, Bool.and_eq_true, decide_eq_true_eq, beq_iff_eq] at ho
    unfold okP
    rcases ho with h | h | h
    · exact .inl h
    · exact .inr (.inl h)
    · refine .inr (.inr ⟨h, fun e => ?_, fun e => ?_⟩)
      · subst e
        rw [List.head?_eq_getElem?, List.getElem?_eq_getElem hj] at h4
        exact h4 (by rw [(h45 _).1 h])
      · rw [List.getLast?_eq_getElem?, show l.length - 1 = j by omega, List.getElem?_eq_getElem hj] at h5
        exact h5 (by rw [(h45 _).1 h])
  · rintro ⟨⟨h1, h2⟩, h3⟩
    refine ⟨fun e => by rw [e] at h1; exact absurd h1 (by decide), h2, fun c hc => ?_, fun e => ?_, fun e => ?_⟩
    · obtain ⟨j, hj, rfl⟩ := List.getElem_of_mem hc
      have := h3 j hj
      unfold okP at this
      unfold octL
      simp only [Bool.or_eq_true, Bool.and_eq_true, decide_eq_true_eq, beq_iff_eq]
      rcases this with h | h | h
      · exact .inl h
      · exact .inr (.inl h)
      · exact .inr (.inr h.1)
    · rw [List.head?_eq_getElem?, List.getElem?_eq_getElem (show 0 < l.length by omega)] at e
      have := h3 0 (by omega)
      rw [Option.some.inj e] at this
      unfold okP at this
      revert this; show (97 ≤ 45 ∧ 45 ≤ 122) ∨ (48 ≤ 45 ∧ 45 ≤ 57) ∨ (45 = 45 ∧ 0 ≠ 0 ∧ _) → False
      omega
    · rw [List.getLast?_eq_getElem?, List.getElem?_eq_getElem (show l.length - 1 < l.length by omega)] at e
      have := h3 (l.length - 1) (by omega)
      rw [Option.some.inj e] at this
      unfold okP at this
      revert this; show (97 ≤ 45 ∧ 45 ≤ 122) ∨ (48 ≤ 45 ∧ 45 ≤ 57) ∨ (45 = 45 ∧ _ ∧ l.length - 1 + 1 ≠ l.length) → False
      omega
theorem label_r (s : ByteArray) (hs : (os s).length ≤ 1000) (k : Nat) (hk : 1100 ≤ k) : tollref01_Label.f k s = some (labL (os s)) := by
  obtain ⟨b, h1, h2⟩ := label_loop s hs (os s).length 0 k (by omega) (by omega) (by omega)
  refine Eq.trans h1 ?_
  congr 1
  rw [Bool.eq_iff_iff, h2, labL_iff]
  exact ⟨fun h => ⟨h.1, fun j hj => h.2 j hj (by omega)⟩, fun h => ⟨h.1, fun j hj _ => h.2 j hj⟩⟩

theorem splitL_snoc (c x : UInt8) : ∀ p : List UInt8, splitL c (p ++ [x]) = if x = c then splitL c p ++ [[]] else (splitL c p).dropLast ++ [(splitL c p).getLastD [] ++ [x]]
  | [] => by
    have e : splitL c [x] = if x = c then [[], []] else [[x]] := rfl
    rw [List.nil_append, e]
    rfl
  | y :: r => by
    obtain ⟨a, t, e⟩ := splitL_cons (c := c) (l := r)
    have ih := splitL_snoc c x r
    rw [List.cons_append, splitL, splitL, ih, e]
    by_cases h : x = c
    · rw [if_pos h, if_pos h]
      by_cases hy : y = c
      · rw [if_pos hy, if_pos hy]; rfl
      · rw [if_neg hy, if_neg hy]; rfl
    · rw [if_neg h, if_neg h]
      by_cases hy : y = c
      · rw [if_pos hy, if_pos hy]
        cases t <;> rfl
      · rw [if_neg hy, if_neg hy]
        cases t <;> rfl
theorem set_last {α : Type} (l : List α) (h : l ≠ []) (v : α) : l.set (l.length - 1) v = l.dropLast ++ [v] := by
  have e : l.dropLast ++ [l.getLast h] = l := List.dropLast_concat_getLast h
  conv => lhs; rw [← e]
  have hl : (l.dropLast ++ [l.getLast h]).length - 1 = l.dropLast.length := by rw [List.length_append, List.length_singleton]; omega
  rw [hl, List.set_append_right _ _ (Nat.le_refl _), Nat.sub_self]; rfl
theorem split_loop (s : ByteArray) (c : UInt8) (hs : (os s).length ≤ 1000) : ∀ (n i k : Nat) (out : List ByteArray), (os s).length - i = n → i ≤ (os s).length → n + 1 ≤ k → out.map os = splitL c ((os s).take i) → (∀ x ∈ out, (os x).length ≤ i) → out.length ≤ i + 1 →
    ∃ L, tollref01_Split.l0 k s (c.toNat : Int) out (i : Int) = some L ∧ L.map os = splitL c (os s) ∧ (∀ x ∈ L, (os x).length ≤ 1000) ∧ L.length ≤ 1001 := by
  have hz := size_os s
  intro n
  induction n with
  | zero =>
    intro i k out h1 h2 h3 h4 h5 h6
    obtain ⟨k, rfl⟩ : ∃ m, k = m + 1 := ⟨k - 1, by omega⟩
    obtain rfl : i = (os s).length := by omega
    rw [List.take_length] at h4
    exact ⟨out, by rw [tollref01_Split.l0, if_neg (by omega)], h4, fun x hx => by have := h5 x hx; omega, by omega⟩
  | succ n ih =>
    intro i k out h1 h2 h3 h4 h5 h6
    obtain ⟨k, rfl⟩ : ∃ m, k = m + 1 := ⟨k - 1, by omega⟩
    have hi : i < (os s).length := by omega
    have hne : out ≠ [] := fun e => by rw [e] at h4; exact splitL_ne c _ h4.symm
    have hlen : 0 < out.length := by cases out with | nil => exact absurd rfl hne | cons => simp
    have et : (os s).take (i + 1) = (os s).take i ++ [(os s)[i]'hi] := by rw [List.take_append_getElem hi]
    rw [tollref01_Split.l0, if_pos (by omega), if_pos (by omega), bt_n hi, wrapN (by omega)]
    by_cases hc : (os s)[i]'hi = c
    · rw [if_pos (by rw [hc]), if_pos (by omega)]
      refine ih (i + 1) k _ (by omega) (by omega) (by omega) ?_ ?_ (by rw [List.length_append, List.length_singleton]; omega)
      · rw [et, splitL_snoc, if_pos hc, List.map_append, h4]; rfl
      · intro x hx
        rcases List.mem_append.1 hx with hx | hx
        · have := h5 x hx; omega
        · rw [List.mem_singleton.1 hx]; show 0 ≤ _; omega
    · have hcn : ¬ (((os s)[i]'hi).toNat : Int) = (c.toNat : Int) := fun h => hc (UInt8.toNat_inj.1 (by omega))
      have hw : wrap64 ((out.length : Int) - 1) = ((out.length - 1 : Nat) : Int) := by rw [wrap64_id (by omega) (by omega)]; omega
      have hlast : out.length - 1 < out.length := by omega
      have hx := h5 _ (List.getElem_mem hlast)
      have hxs := size_os (out[out.length - 1]'hlast)
      have he : os (s.extract (i : Int).toNat ((i + 1 : Nat) : Int).toNat) = [(os s)[i]'hi] := by
        rw [Int.toNat_natCast, Int.toNat_natCast, os_extract, List.drop_eq_getElem_cons hi, show i + 1 - i = 1 by omega]; rfl
      have hes := size_os (s.extract (i : Int).toNat ((i + 1 : Nat) : Int).toNat)
      rw [he] at hes
      rw [if_neg hcn, hw, if_pos (by omega), if_pos (by omega), if_pos (by omega), if_pos (by omega), rdB out _ hlast, if_pos (by rw [hes]; simp; omega), Int.toNat_natCast (out.length - 1)]
      refine ih (i + 1) k _ (by omega) (by omega) (by omega) ?_ ?_ (by rw [List.length_set]; omega)
      · rw [et, splitL_snoc, if_neg hc, ← h4, set_last out hne, List.map_append, List.map_dropLast]
        congr 1
        show [os (_ ++ _)] = _
        rw [os_append, he]
        congr 2
        rw [List.getLastD_eq_getLast?, List.getLast?_map, List.getLast?_eq_getElem?, List.getElem?_eq_getElem hlast]; rfl
      · intro x hx2
        rw [set_last out hne] at hx2
        rcases List.mem_append.1 hx2 with hx2 | hx2
        · have := h5 x (List.dropLast_subset _ hx2); omega
        · rw [List.mem_singleton.1 hx2, os_append, he, List.length_append, List.length_singleton]; omega
theorem split_r (s : ByteArray) (hs : (os s).length ≤ 1000) (k : Nat) (hk : 1100 ≤ k) : ∃ L, tollref01_Split.f k s 46 = some L ∧ L.map os = splitL 46 (os s) ∧ (∀ x ∈ L, (os x).length ≤ 1000) ∧ L.length ≤ 1001 :=
  split_loop s 46 hs (os s).length 0 k [⟨#[]⟩] (by omega) (by omega) (by omega) rfl (fun x hx => by rw [List.mem_singleton.1 hx]; show 0 ≤ 0; omega) (by show 1 ≤ 1; omega)
theorem name_loop (L : List ByteArray) (hL : ∀ x ∈ L, (os x).length ≤ 1000) (hn : L.length ≤ 1001) : ∀ (n i k : Nat), L.length - i = n → i ≤ L.length → n + 1101 ≤ k → tollref01_Name.l0 k L (i : Int) = some (((L.drop i).map os).all labL) := by
  intro n
  induction n with
  | zero =>
    intro i k h1 h2 h3
    obtain ⟨k, rfl⟩ : ∃ m, k = m + 1 := ⟨k - 1, by omega⟩
    rw [tollref01_Name.l0, if_neg (by omega), List.drop_eq_nil_of_le (by omega)]; rfl
  | succ n ih =>
    intro i k h1 h2 h3
    obtain ⟨k, rfl⟩ : ∃ m, k = m + 1 := ⟨k - 1, by omega⟩
    have hi : i < L.length := by omega
    rw [tollref01_Name.l0, if_pos (by omega), if_pos (by omega), rdB L i hi, label_r _ (hL _ (List.getElem_mem hi)) k (by omega), Option.bind_some, wrapN (by omega), ih (i + 1) k (by omega) (by omega) (by omega), List.drop_eq_getElem_cons hi, List.map_cons, List.all_cons]
    cases labL (os (L[i]'hi)) <;> rfl
theorem name_r (s : ByteArray) (hs : (os s).length ≤ 1000) (k : Nat) (hk : 2300 ≤ k) : tollref01_Name.f k s = some (nm (os s)) := by
  have hz := size_os s
  rw [nm_eq]
  unfold tollref01_Name.f nameL
  by_cases c : (os s).length ≤ 60
  · obtain ⟨L, h1, h2, h3, h4⟩ := split_r s hs k (by omega)
    have := name_loop L h3 h4 L.length 0 k (by omega) (by omega) (by omega)
    rw [List.drop_zero, h2] at this
    rw [if_neg (by omega), h1, Option.bind_some, decide_eq_true c, Bool.true_and]
    exact this
  · rw [if_pos (by omega), decide_eq_false c]; rfl

end Go.Proofs.YtglghmcdcdljoaaDoor.L
namespace Go.Proofs.YtglghmcdcdljoaaDoor.L
open Go Go.RowKit Go.Proofs.YtglghmcdcdljoaaDoor.P Go.Proofs.YtglghmcdcdljoaaDoorW.PrintWords Go.Proofs.YtglghmcdcdljoaaDoorW.PrintLast
end Go.Proofs.YtglghmcdcdljoaaDoor.L
namespace Go.Proofs.YtglghmcdcdljoaaDoor.L
open Go Go.RowKit Go.Proofs.YtglghmcdcdljoaaDoor.P Go.Proofs.YtglghmcdcdljoaaDoorW.PrintWords Go.Proofs.YtglghmcdcdljoaaDoorW.PrintLast
theorem nums1 (c : Int) : os (strOfNums [c]) = [UInt8.ofNat c.toNat] := rfl
noncomputable def dig (c : UInt8) : Prop := 48 ≤ c.toNat ∧ c.toNat ≤ 57
instance (c : UInt8) : Decidable (dig c) := by unfold dig; exact inferInstance
theorem dig_all : ∀ n : Fin 256, digits.contains (UInt8.ofNat n) = (decide (48 ≤ (n : Nat)) && decide ((n : Nat) ≤ 57)) := by decide +kernel
theorem dig_eq (c : UInt8) : digits.contains c = decide (dig c) := by
  have := dig_all ⟨c.toNat, c.toNat_lt⟩
  rw [show UInt8.ofNat ((⟨c.toNat, c.toNat_lt⟩ : Fin 256) : Nat) = c from UInt8.ofNat_toNat] at this
  rw [this]
  unfold dig
  by_cases h1 : 48 ≤ c.toNat <;> by_cases h2 : c.toNat ≤ 57 <;> simp [h1, h2]
theorem dropWhile_nil {α : Type} (p : α → Bool) : ∀ l : List α, l.dropWhile p = [] ↔ ∀ x ∈ l, p x = true
  | [] => by simp
  | a :: r => by
    rw [List.dropWhile_cons]
    cases h : p a with
    | true => rw [if_pos rfl, dropWhile_nil p r]; simp [h]
    | false => rw [if_neg (by decide)]; simp [h]
theorem trim_nil (l : List UInt8) : Go.Lib.trimS l digits = [] ↔ ∀ c ∈ l, dig c := by
  unfold Go.Lib.trimS Go.Lib.trimLeftS Go.Lib.trimRightS
  rw [dropWhile_nil]
  constructor
  · intro h
    have h2 : l.reverse.dropWhile (digits.contains ·) = [] := by
      cases he : l.reverse.dropWhile (digits.contains ·) with
      | nil => rfl
      | cons a r =>
        have h3 := List.head?_dropWhile_not (digits.contains ·) l.reverse
        rw [he] at h3
        simp only [List.head?_cons] at h3
        have h4 := h a (by rw [he]; simp)
        rw [h4] at h3
        cases h3
    rw [dropWhile_nil] at h2
    intro c hc
    have := h2 c (List.mem_reverse.2 hc)
    rw [dig_eq] at this
    exact of_decide_eq_true this
  · intro h c hc
    have : c ∈ l := List.mem_reverse.1 ((List.dropWhile_suffix _).subset (List.mem_reverse.1 hc))
    rw [dig_eq]
    exact decide_eq_true (h c this)
theorem port_iff (l : List UInt8) : portL l = true ↔ 1 ≤ l.length ∧ l.length ≤ 5 ∧ ∀ c ∈ l, dig c := by
  unfold portL
  rw [Bool.and_eq_true, Bool.and_eq_true, decide_eq_true_eq, decide_eq_true_eq, beq_iff_eq, trim_nil]
noncomputable def PortAt (f : List UInt8) (n : Nat) : Prop := n + 1 ≤ f.length ∧ f[f.length - n - 1]? = some 58 ∧ ∀ c ∈ f.drop (f.length - n), dig c
theorem lastN_at {f : List UInt8} {i : Nat} (h1 : f[i]? = some 58) : ∀ n, i < n → n ≤ f.length → (∀ j, i < j → j < n → f[j]? ≠ some 58) → lastN 58 f n = (i : Int)
  | 0, h, _, _ => by omega
  | n + 1, h, hn, h2 => by
    have h58 : ∀ c : UInt8, ((c.toNat : Int) = 58) ↔ c = 58 := fun c => ⟨fun h => UInt8.toNat_inj.1 (show c.toNat = 58 by omega), fun h => by rw [h]; rfl⟩
    have hx : f[n]? = some (f[n]'(by omega)) := List.getElem?_eq_getElem (by omega)
    rw [lastN, hx, Option.getD_some]
    by_cases c : i = n
    · subst c
      rw [hx] at h1
      rw [if_pos ((h58 _).2 (Option.some.inj h1))]
    · rw [if_neg (fun h3 => h2 n (by omega) (by omega) (by rw [hx, (h58 _).1 h3])), lastN_at h1 n (by omega) (by omega) (fun j hj1 hj2 => h2 j hj1 (by omega))]
theorem lastN_is {f : List UInt8} : ∀ n, n ≤ f.length → 0 ≤ lastN 58 f n → f[(lastN 58 f n).toNat]? = some 58
  | 0, _, h => by rw [lastN] at h; omega
  | n + 1, hn, h => by
    have hx : f[n]? = some (f[n]'(by omega)) := List.getElem?_eq_getElem (by omega)
    rw [lastN, hx, Option.getD_some] at h ⊢
    by_cases c : ((f[n]'(by omega)).toNat : Int) = 58
    · rw [if_pos c, Int.toNat_natCast, hx]
      congr 1
      exact UInt8.toNat_inj.1 (show (f[n]'(by omega)).toNat = 58 by omega)
    · rw [if_neg c] at h ⊢
      exact lastN_is n (by omega) h
theorem noPort_yes {f : List UInt8} {n : Nat} (h1 : 1 ≤ n) (h5 : n ≤ 5) (h : PortAt f n) : noPort f = f.take (f.length - n - 1) := by
  obtain ⟨ha, hb, hc⟩ := h
  have hl : lastN 58 f f.length = ((f.length - n - 1 : Nat) : Int) := lastN_at hb f.length (by omega) (Nat.le_refl _) (fun j hj1 hj2 e => by
    have : (58 : UInt8) ∈ f.drop (f.length - n) := by
      refine List.mem_iff_getElem?.2 ⟨j - (f.length - n), ?_⟩
      rw [List.getElem?_drop, show f.length - n + (j - (f.length - n)) = j by omega]; exact e
    have := hc _ this
    unfold dig at this
    revert this; decide)
  unfold noPort
  rw [hl, Int.toNat_natCast, if_pos]
  rw [Bool.and_eq_true, decide_eq_true_eq, port_iff]
  refine ⟨by omega, by rw [List.length_drop]; omega, by rw [List.length_drop]; omega, ?_⟩
  rw [show f.length - n - 1 + 1 = f.length - n by omega]
  exact hc
theorem noPort_no {f : List UInt8} (h : ∀ n, 1 ≤ n → n ≤ 5 → ¬ PortAt f n) : noPort f = f := by
  have hb := lastN_bound 58 f f.length
  unfold noPort
  rw [if_neg]
  rw [Bool.and_eq_true, decide_eq_true_eq, port_iff]
  rintro ⟨h1, h2, h3, h4⟩
  rw [List.length_drop] at h2 h3
  refine h (f.length - ((lastN 58 f f.length).toNat + 1)) h2 h3 ⟨by omega, ?_, ?_⟩
  · rw [show f.length - (f.length - ((lastN 58 f f.length).toNat + 1)) - 1 = (lastN 58 f f.length).toNat by omega]
    exact lastN_is f.length (Nat.le_refl _) h1
  · rw [show f.length - (f.length - ((lastN 58 f f.length).toNat + 1)) = (lastN 58 f f.length).toNat + 1 by omega]
    exact h4
end Go.Proofs.YtglghmcdcdljoaaDoor.L
