import Derived.Test.YtpmllmfamjpinaaGreatDoorPx0
import Derived.Test.YtpmllmfamjpinaaGreatDoorPx10
import Derived.Test.YtpmllmfamjpinaaGreatDoorPx11
import Derived.Test.YtpmllmfamjpinaaGreatDoorPx12
import Derived.Test.YtpmllmfamjpinaaGreatDoorPx13
import Derived.Test.YtpmllmfamjpinaaGreatDoorPx14
import Derived.Test.YtpmllmfamjpinaaGreatDoorPx2
import Derived.Test.YtpmllmfamjpinaaGreatDoorPx3
import Derived.Test.YtpmllmfamjpinaaGreatDoorPx4
import Derived.Test.YtpmllmfamjpinaaGreatDoorPx5
import Derived.Test.YtpmllmfamjpinaaGreatDoorPx6
import Derived.Test.YtpmllmfamjpinaaGreatDoorPx7
import Derived.Test.YtpmllmfamjpinaaGreatDoorPx8
import Derived.Test.YtpmllmfamjpinaaGreatDoorPx9
import Derived.Test.YtpmllmfamjpinaaGreatDoorWWords
import Derived.Laws.Strings
import Derived.Laws.Runes
import Derived.Lib.IndexLaws
namespace Go.Proofs.YtpmllmfamjpinaaGreatDoor.L
open Go Go.RowKit Go.Proofs.YtpmllmfamjpinaaGreatDoorW.PrintWords

abbrev os (s : ByteArray) : List UInt8 := s.data.toList

theorem toList_os (s : ByteArray) : s.toList = os s := ByteArray.toList_eq s
theorem size_os (s : ByteArray) : s.size = (os s).length := (Array.length_toList (xs := s.data)).symm
theorem os_inj {s t : ByteArray} (h : os s = os t) : s = t := by
  cases s with | mk a => cases t with | mk b =>
  have : a = b := Array.toList_inj.1 h
  rw [this]
theorem os_mk (l : List UInt8) : os (⟨l.toArray⟩ : ByteArray) = l := rfl
theorem os_append (s t : ByteArray) : os (s ++ t) = os s ++ os t := by
  simp [os, ByteArray.data_append]
theorem os_extract (s : ByteArray) (a b : Nat) : os (s.extract a b) = ((os s).drop a).take (b - a) := by
  simp [os, ByteArray.data_extract, Array.toList_extract, List.extract]
theorem bt_os (s : ByteArray) (i : Nat) : bt s (i : Int) = (((os s)[i]?.getD 0).toNat : Int) := by
  unfold bt
  have hs := size_os s
  by_cases h : ((i : Nat) : Int).toNat < s.size
  · rw [dif_pos h]
    have h' : i < (os s).length := by simp at h; omega
    rw [List.getElem?_eq_getElem h']
    rfl
  · rw [dif_neg h]
    have h' : (os s).length ≤ i := by simp at h; omega
    rw [List.getElem?_eq_none h']
    rfl
theorem wrap64_id {x : Int} (h1 : -9223372036854775808 ≤ x) (h2 : x ≤ 9223372036854775807) : wrap64 x = x := by unfold wrap64; omega
end Go.Proofs.YtpmllmfamjpinaaGreatDoor.L
namespace Go.Proofs.YtpmllmfamjpinaaGreatDoor.L
open Go Go.RowKit Go.Proofs.YtpmllmfamjpinaaGreatDoor.P Go.Proofs.YtpmllmfamjpinaaGreatDoorW.PrintWords Go.Proofs.YtpmllmfamjpinaaGreatDoorW.PrintLast

noncomputable def pok (c : UInt8) : Bool := decide (33 ≤ c.toNat) && (decide (c.toNat ≤ 126) && (c.toNat != 63 && c.toNat != 35))
noncomputable def isPath (l : List UInt8) : Bool := l.all pok && (l.head? == some 47 && decide (l.length ≤ 60))
theorem isPath_len {l : List UInt8} (h : isPath l = true) : 1 ≤ l.length ∧ l.length ≤ 60 := by
  unfold isPath at h
  simp only [Bool.and_eq_true, decide_eq_true_eq, beq_iff_eq] at h
  refine ⟨?_, h.2.2⟩
  cases l with
  | nil => simp at h
  | cons a r => simp
theorem hasPrefix (s p : ByteArray) : strings_HasPrefix.f s p = some ((os p).isPrefixOf (os s)) := by
  have hs := size_os s
  have hp := size_os p
  unfold strings_HasPrefix.f stringslite_HasPrefix.f
  by_cases h : (s.size : Int) ≥ (p.size : Int)
  · rw [if_pos h, if_pos (by omega), if_pos (by omega), Option.bind_some]
    congr 1
    rw [toList_os, toList_os, os_extract, List.drop_zero, Nat.sub_zero, hp, Bool.eq_iff_iff, beq_iff_eq, List.isPrefixOf_iff_prefix]
    constructor
    · intro h
      rw [← h]
      exact List.take_prefix _ _
    · intro h
      exact (List.prefix_iff_eq_take.1 h).symm
  · rw [if_neg h, Option.bind_some]
    congr 1
    symm
    rw [Bool.eq_false_iff]
    intro hc
    have := (List.isPrefixOf_iff_prefix.1 hc).length_le
    omega
theorem path_is (s : ByteArray) : path_Is.f s = some (isPath (os s)) := by
  have hs := size_os s
  unfold path_Is.f isPath
  by_cases h : (os s).all path_Is.ok = true
  · rw [if_pos h, hasPrefix, Option.bind_some]
    have h2 : (os s).all pok = true := h
    rw [h2]
    have h3 : (os (⟨#[47]⟩ : ByteArray)).isPrefixOf (os s) = ((os s).head? == some 47) := by
      show [47].isPrefixOf (os s) = _
      cases os s with
      | nil => rfl
      | cons a r =>
        show (47 == a && true) = (some a == some 47)
        by_cases ha : a = 47
        · rw [ha]; rfl
        · rw [Bool.and_true, beq_eq_false_iff_ne.2 (Ne.symm ha), beq_eq_false_iff_ne.2 (fun h => ha (Option.some.inj h))]
    rw [h3]
    cases (os s).head? == some 47
    · rfl
    · rw [if_pos rfl, Bool.true_and, Bool.true_and]
      congr 1
      exact decide_eq_decide.2 (by omega)
  · rw [if_neg h]
    have h2 : (os s).all pok = false := by rw [Bool.eq_false_iff]; exact h
    rw [h2]
    rfl

theorem ref_is_loop (s : ByteArray) (hl : s.size ≤ 1000) : ∀ (d k i : Nat), i + d = s.size → d < k → tollref03_Is.l0 k s (i : Int) = some (((os s).drop i).all pok) := by
  have hs := size_os s
  intro d
  induction d with
  | zero =>
    intro k i hi hk
    obtain ⟨k, rfl⟩ : ∃ m, k = m + 1 := ⟨k - 1, by omega⟩
    simp only [tollref03_Is.l0]
    rw [if_neg (by omega), List.drop_eq_nil_of_le (by omega)]
    rfl
  | succ d ih =>
    intro k i hi hk
    obtain ⟨k, rfl⟩ : ∃ m, k = m + 1 := ⟨k - 1, by omega⟩
    have hil : i < (os s).length := by omega
    simp only [tollref03_Is.l0]
    rw [if_pos (by omega), if_pos (by omega), bt_os, List.getElem?_eq_getElem hil, Option.getD_some, List.drop_eq_getElem_cons hil, List.all_cons]
    have hn := ((os s)[i]'hil).toNat_lt
    have hw : wrap64 ((i : Int) + 1) = ((i + 1 : Nat) : Int) := by rw [wrap64_id (by omega) (by omega)]; omega
    rw [hw, ih k (i + 1) (by omega) (by omega)]
    generalize ((os s)[i]'hil) = c at hn
    generalize ((os s).drop (i + 1)).all pok = b
    unfold pok
    by_cases h1 : c.toNat < 33
    · rw [if_pos (by omega), show decide (33 ≤ c.toNat) = false from by simp; omega]; rfl
    rw [if_neg (by omega), show decide (33 ≤ c.toNat) = true from by simp; omega]
    by_cases h2 : 126 < c.toNat
    · rw [if_pos (by omega), show decide (c.toNat ≤ 126) = false from by simp; omega]; rfl
    rw [if_neg (by omega), show decide (c.toNat ≤ 126) = true from by simp; omega]
    by_cases h3 : c.toNat = 63
    · rw [if_pos (by omega), h3]; rfl
    rw [if_neg (by omega), show (c.toNat != 63) = true from by simpa using h3]
    by_cases h4 : c.toNat = 35
    · rw [if_pos (by omega), h4]; rfl
    rw [if_neg (by omega), show (c.toNat != 35) = true from by simpa using h4]
    rfl
theorem ref_is (s : ByteArray) (k : Nat) (hk : s.size + 3 ≤ k) (hl : s.size ≤ 1000) : tollref03_Is.f k s = some (isPath (os s)) := by
  have hs := size_os s
  obtain ⟨k, rfl⟩ : ∃ m, k = m + 1 := ⟨k - 1, by omega⟩
  unfold tollref03_Is.f isPath
  by_cases h1 : (s.size : Int) < 1
  · rw [if_pos h1]
    simp only [tollref03_Is.j0]
    rw [if_pos trivial]
    have : os s = [] := List.eq_nil_of_length_eq_zero (by omega)
    rw [this]
    rfl
  rw [if_neg h1]
  by_cases h2 : (s.size : Int) > 60
  · rw [if_pos h2]
    simp only [tollref03_Is.j0]
    rw [if_pos trivial, decide_eq_false (show ¬ (os s).length ≤ 60 by omega), Bool.and_false, Bool.and_false]
  rw [if_neg h2, if_pos (by omega), decide_eq_true (show (os s).length ≤ 60 by omega), Bool.and_true]
  simp only [tollref03_Is.j0]
  have hb := bt_os s 0
  obtain ⟨c, r, hc⟩ : ∃ c r, os s = c :: r := by
    cases h : os s with
    | nil => rw [h, List.length_nil] at hs; omega
    | cons c r => exact ⟨c, r, rfl⟩
  have hb2 : bt s 0 = (c.toNat : Int) := by
    have : bt s 0 = bt s ((0 : Nat) : Int) := rfl
    rw [this, hb, hc]; rfl
  rw [hb2]
  by_cases h3 : c = 47
  · have : ((c.toNat : Int) != 47) = false := by rw [h3]; rfl
    rw [this, if_neg (by simp)]
    have hlp := ref_is_loop s hl s.size k 0 (by omega) (by omega)
    rw [List.drop_zero] at hlp
    have hz : tollref03_Is.l0 k s 0 = tollref03_Is.l0 k s ((0 : Nat) : Int) := rfl
    rw [hz, hlp, hc, h3]
    simp
  · have hne : ((c.toNat : Int) != 47) = true := by
      rw [bne_iff_ne]
      intro h
      apply h3
      apply UInt8.toNat_inj.1
      show c.toNat = 47
      omega
    rw [hne, if_pos rfl, hc]
    simp [h3]

end Go.Proofs.YtpmllmfamjpinaaGreatDoor.L
namespace Go.Proofs.YtpmllmfamjpinaaGreatDoor.L
open Go Go.RowKit Go.Proofs.YtpmllmfamjpinaaGreatDoor.P Go.Proofs.YtpmllmfamjpinaaGreatDoorW.PrintWords Go.Proofs.YtpmllmfamjpinaaGreatDoorW.PrintLast

abbrev PT := S51
noncomputable def nb (s : ByteArray) : List UInt8 := (os s).map dns_Fold.b
noncomputable def eqN (a b : ByteArray) : Bool := nb a == nb b
noncomputable def Small (m : Nat) (l : List PT) : Prop := l.length ≤ m ∧ ∀ x ∈ l, (os x.f0).length ≤ 100 ∧ (os x.f1).length ≤ 100
theorem Small.mono {m m' : Nat} {l : List PT} (h : Small m l) (hm : m ≤ m') : Small m' l := ⟨Nat.le_trans h.1 hm, h.2⟩
theorem Small.filter {m : Nat} {l : List PT} (h : Small m l) (p : PT → Bool) : Small m (l.filter p) := ⟨Nat.le_trans (List.length_filter_le _ _) h.1, fun x hx => h.2 x (List.mem_filter.1 hx).1⟩

noncomputable def few (s : ByteArray) : ByteArray := if s.size > 100 then s.extract 0 100 else s
theorem few_eq (s : ByteArray) : tolllaw01_Few.f s = some (few s) := by
  unfold tolllaw01_Few.f few
  by_cases h : s.size > 100
  · rw [if_pos (by omega), if_pos (by decide), if_pos (by omega), if_pos h]
  · rw [if_neg (by omega), if_neg h]
theorem few_len (s : ByteArray) : (os (few s)).length ≤ 100 := by
  have hs := size_os s
  unfold few
  by_cases h : s.size > 100
  · rw [if_pos h, os_extract, List.length_take]; omega
  · rw [if_neg h]; omega
noncomputable def few1 (x : PT) : PT := ⟨few x.f0, few x.f1⟩
noncomputable def fewL (l : List PT) : List PT := (l.take 31).map few1
theorem rd_at (l : List PT) (i : Nat) (h : i < l.length) : rd_T51 l (i : Int) = l[i] := by
  unfold rd_T51
  rw [Int.toNat_natCast, getD_at _ _ h]
theorem fewL_loop (l : List PT) : ∀ (n i k : Nat) (acc : List PT), 31 - i ≤ n → i ≤ 31 → i ≤ l.length → acc.length ≤ 1000 + i → 2 * n + 2 ≤ k → tolllaw05_Few.l0 k l acc (i : Int) = some (acc ++ ((l.drop i).take (31 - i)).map few1) := by
  intro n
  induction n with
  | zero =>
    intro i k acc h1 h2 h3 h4 h5
    obtain ⟨k, rfl⟩ : ∃ m, k = m + 2 := ⟨k - 2, by omega⟩
    obtain rfl : i = 31 := by omega
    have e : tolllaw05_Few.j1 (k + 1) l acc ((31 : Nat) : Int) false = some acc := by rw [tolllaw05_Few.j1]; rfl
    have e' : tolllaw05_Few.j1 (k + 1) l acc 31 false = some acc := e
    rw [tolllaw05_Few.l0]
    split <;> simp [e']
  | succ n ih =>
    intro i k acc h1 h2 h3 h4 h5
    obtain ⟨k, rfl⟩ : ∃ m, k = m + 2 := ⟨k - 2, by omega⟩
    have e : tolllaw05_Few.j1 (k + 1) l acc (i : Int) false = some acc := by rw [tolllaw05_Few.j1]; rfl
    rw [tolllaw05_Few.l0]
    by_cases hl : i < l.length
    · rw [if_pos (by omega)]
      by_cases h31 : i < 31
      · rw [show decide ((i : Int) < 31) = true from decide_eq_true (by omega), tolllaw05_Few.j1, if_pos rfl, if_pos (by omega), if_pos (by omega), rd_at l i hl, few_eq, Option.bind_some, few_eq, Option.bind_some, if_pos (by omega), wrap64_id (by omega) (by omega), show (i : Int) + 1 = ((i + 1 : Nat) : Int) by omega, ih (i + 1) k _ (by omega) (by omega) (by omega) (by rw [List.length_append, List.length_singleton]; omega) (by omega)]
        rw [List.append_assoc, show 31 - i = (31 - (i + 1)) + 1 by omega, List.drop_eq_getElem_cons hl, List.take_succ_cons, List.map_cons]
        rfl
      · obtain rfl : i = 31 := by omega
        rw [show decide (((31 : Nat) : Int) < 31) = false from rfl, e]; rw [Nat.sub_self, List.take_zero]; simp
    · obtain rfl : i = l.length := by omega
      rw [if_neg (by omega), e]; simp
theorem fewL_eq (l : List PT) (k : Nat) (hk : 70 ≤ k) : tolllaw05_Few.f k l = some (fewL l) := by
  unfold tolllaw05_Few.f fewL
  have := fewL_loop l 31 0 k [] (by omega) (by omega) (by omega) (by simp) (by omega)
  simpa using this
theorem fewL_small (l : List PT) : Small 31 (fewL l) := by
  refine ⟨by unfold fewL; rw [List.length_map, List.length_take]; omega, fun x hx => ?_⟩
  obtain ⟨y, _, rfl⟩ := List.mem_map.1 hx
  exact ⟨few_len _, few_len _⟩
theorem fold_p (s : ByteArray) (h : (os s).length ≤ 1000) : dns_Fold.f s = some ⟨(nb s).toArray⟩ := by
  have hs := size_os s
  unfold dns_Fold.f
  rw [if_pos (by omega)]
  rfl
theorem same_p (a b : ByteArray) (ha : (os a).length ≤ 1000) (hb : (os b).length ≤ 1000) : pairs_Same.f a b = some (eqN a b) := by
  unfold pairs_Same.f eqN
  rw [fold_p a ha, Option.bind_some, fold_p b hb, Option.bind_some, toList_os, toList_os]
theorem nums1 (c : Int) : os (strOfNums [c]) = [UInt8.ofNat c.toNat] := rfl
theorem foldR_loop (s : ByteArray) (hs : (os s).length ≤ 1000) : ∀ (n i k : Nat) (acc : ByteArray), (os s).length - i ≤ n → i ≤ (os s).length → (os acc).length ≤ 1000 + i → n + 1 ≤ k → ∃ t, tollref01_Fold.l0 k s acc (i : Int) = some t ∧ os t = os acc ++ ((os s).drop i).map dns_Fold.b := by
  have hsz := size_os s
  intro n
  induction n with
  | zero =>
    intro i k acc h1 h2 h3 h4
    obtain ⟨k, rfl⟩ : ∃ m, k = m + 1 := ⟨k - 1, by omega⟩
    rw [tollref01_Fold.l0, if_neg (by omega)]
    refine ⟨_, rfl, ?_⟩
    rw [List.drop_eq_nil_of_le (by omega)]; simp
  | succ n ih =>
    intro i k acc h1 h2 h3 h4
    obtain ⟨k, rfl⟩ : ∃ m, k = m + 1 := ⟨k - 1, by omega⟩
    by_cases hi : i < (os s).length
    · have hacc := size_os acc
      have hb : bt s (i : Int) = (((os s)[i]'hi).toNat : Int) := by rw [bt_os, List.getElem?_eq_getElem hi]; rfl
      have hlt := ((os s)[i]'hi).toNat_lt
      have step : ∀ c : Int, UInt8.ofNat c.toNat = dns_Fold.b ((os s)[i]'hi) → ∃ t, ((some (([c] : List Int) : List Int)).bind fun y => (if acc.size + (strOfNums y).size ≤ 9223372036854775807 then (tollref01_Fold.l0 k s (acc ++ (strOfNums y)) (wrap64 ((i : Int) + 1))) else (none))) = some t ∧ os t = os acc ++ ((os s).drop i).map dns_Fold.b := by
        intro c hc
        rw [Option.bind_some, if_pos (by rw [strOfNums_size]; simp; omega), wrap64_id (by omega) (by omega), show (i : Int) + 1 = ((i + 1 : Nat) : Int) by omega]
        obtain ⟨t, e, ht⟩ := ih (i + 1) k (acc ++ strOfNums [c]) (by omega) (by omega) (by rw [os_append, nums1, List.length_append, List.length_singleton]; omega) (by omega)
        refine ⟨t, e, ?_⟩
        rw [ht, os_append, nums1, List.drop_eq_getElem_cons hi, List.map_cons, hc, List.append_assoc]
        rfl
      rw [tollref01_Fold.l0, if_pos (by omega), if_pos (by omega)]
      rw [hb]
      by_cases c1 : (65 : Int) ≤ (((os s)[i]'hi).toNat : Int)
      · rw [if_pos c1]
        by_cases c2 : (((os s)[i]'hi).toNat : Int) ≤ 90
        · rw [if_pos c2]
          refine step _ ?_
          unfold dns_Fold.b
          rw [if_pos (by omega)]
          congr 1
          omega
        · rw [if_neg c2]
          refine step _ ?_
          unfold dns_Fold.b
          rw [if_neg (by omega), Int.toNat_natCast, UInt8.ofNat_toNat]
      · rw [if_neg c1]
        refine step _ ?_
        unfold dns_Fold.b
        rw [if_neg (by omega), Int.toNat_natCast, UInt8.ofNat_toNat]
    · rw [tollref01_Fold.l0, if_neg (by omega)]
      refine ⟨_, rfl, ?_⟩
      rw [List.drop_eq_nil_of_le (by omega)]; simp
theorem same_r (a b : ByteArray) (k : Nat) (hk : 200 ≤ k) (ha : (os a).length ≤ 100) (hb : (os b).length ≤ 100) : tollref05_Same.f k a b = some (eqN a b) := by
  unfold tollref05_Same.f tollref01_Fold.f eqN
  obtain ⟨t, e, ht⟩ := foldR_loop a (by omega) 100 0 k ⟨#[]⟩ (by omega) (by omega) (by simp) (by omega)
  obtain ⟨u, e', hu⟩ := foldR_loop b (by omega) 100 0 k ⟨#[]⟩ (by omega) (by omega) (by simp) (by omega)
  have e1 : tollref01_Fold.l0 k a ⟨#[]⟩ 0 = some t := e
  have e2 : tollref01_Fold.l0 k b ⟨#[]⟩ 0 = some u := e'
  rw [e1, Option.bind_some, e2, Option.bind_some, toList_os, toList_os, ht, hu]
  rfl

theorem wrapS {i : Nat} (h : i ≤ 100000) : wrap64 ((i : Int) + 1) = ((i + 1 : Nat) : Int) := by rw [wrap64_id (by omega) (by omega)]; omega
noncomputable def allL (n : ByteArray) (l : List PT) : List ByteArray := (l.filter fun x => eqN x.f0 n).map fun x => x.f1
theorem allR_loop (n : ByteArray) (hn : (os n).length ≤ 100) (l : List PT) (hl : Small 100 l) : ∀ (c i k : Nat) (acc : List ByteArray), l.length - i ≤ c → i ≤ l.length → acc.length ≤ 1000 + i → c + 250 ≤ k → tollref05_All.l0 k l n acc (i : Int) = some (acc ++ allL n (l.drop i)) := by
  have hl1 := hl.1
  intro c
  induction c with
  | zero =>
    intro i k acc h1 h2 h3 h4
    obtain ⟨k, rfl⟩ : ∃ m, k = m + 1 := ⟨k - 1, by omega⟩
    rw [tollref05_All.l0, if_neg (by omega), List.drop_eq_nil_of_le (by omega)]; simp [allL]
  | succ c ih =>
    intro i k acc h1 h2 h3 h4
    obtain ⟨k, rfl⟩ : ∃ m, k = m + 1 := ⟨k - 1, by omega⟩
    rw [tollref05_All.l0]
    by_cases hi : i < l.length
    · have hx := (hl.2 _ (List.getElem_mem hi))
      rw [if_pos (by omega), if_pos (by omega), rd_at l i hi, same_r _ _ k (by omega) hx.1 hn, Option.bind_some, List.drop_eq_getElem_cons hi, allL, List.filter_cons, wrapS (by omega)]
      cases hq : eqN (l[i]'hi).f0 n with
      | true =>
        rw [if_pos rfl, if_pos (by omega), ih (i + 1) k _ (by omega) (by omega) (by rw [List.length_append, List.length_singleton]; omega) (by omega), List.append_assoc]; rfl
      | false =>
        rw [if_neg (by decide), ih (i + 1) k acc (by omega) (by omega) (by omega) (by omega)]; rfl
    · rw [if_neg (by omega), List.drop_eq_nil_of_le (by omega)]; simp [allL]
theorem all_r {n : ByteArray} (hn : (os n).length ≤ 100) {l : List PT} (hl : Small 100 l) (k : Nat) (hk : 400 ≤ k) : tollref05_All.f k l n = some (allL n l) := by
  have := allR_loop n hn l hl l.length 0 k [] (by omega) (by omega) (by simp) (by have := hl.1; omega)
  simpa [tollref05_All.f] using this
end Go.Proofs.YtpmllmfamjpinaaGreatDoor.L
namespace Go.Proofs.YtpmllmfamjpinaaGreatDoor.L
open Go Go.RowKit Go.Proofs.YtpmllmfamjpinaaGreatDoor.P Go.Proofs.YtpmllmfamjpinaaGreatDoorW.PrintWords Go.Proofs.YtpmllmfamjpinaaGreatDoorW.PrintLast

end Go.Proofs.YtpmllmfamjpinaaGreatDoor.L
namespace Go.Proofs.YtpmllmfamjpinaaGreatDoor.L
open Go Go.RowKit Go.Proofs.YtpmllmfamjpinaaGreatDoor.P Go.Proofs.YtpmllmfamjpinaaGreatDoorW.PrintWords Go.Proofs.YtpmllmfamjpinaaGreatDoorW.PrintLast

noncomputable def marks : List UInt8 := [33, 35, 36, 37, 38, 39, 42, 43, 45, 46, 94, 95, 96, 124, 126]
noncomputable def tok (c : UInt8) : Bool := (decide (97 ≤ c.toNat ||| 32) && decide (c.toNat ||| 32 ≤ 122)) || ((decide (48 ≤ c.toNat) && decide (c.toNat ≤ 57)) || marks.any (· == c))
noncomputable def tokR (c : UInt8) : Bool := (decide (48 ≤ c.toNat) && decide (c.toNat ≤ 57)) || ((decide (65 ≤ c.toNat) && decide (c.toNat ≤ 90)) || ((decide (97 ≤ c.toNat) && decide (c.toNat ≤ 122)) || marks.any (· == c)))
theorem bits_or : ∀ n : Fin 256, Go.bits .or .u8 ((n : Nat) : Int) 32 = (((n : Nat) ||| 32 : Nat) : Int) := by decide +kernel
theorem bits_or' (c : UInt8) : Go.bits .or .u8 ((c.toNat : Nat) : Int) 32 = ((c.toNat ||| 32 : Nat) : Int) := bits_or ⟨c.toNat, c.toNat_lt⟩
theorem tok_all : ∀ n : Fin 256, tok (UInt8.ofNat n) = tokR (UInt8.ofNat n) := by decide +kernel
theorem tok_eq (c : UInt8) : tok c = tokR c := by
  have := tok_all ⟨c.toNat, c.toNat_lt⟩
  rwa [show UInt8.ofNat ((⟨c.toNat, c.toNat_lt⟩ : Fin 256) : Nat) = c from UInt8.ofNat_toNat] at this
noncomputable def isTok (l : List UInt8) : Bool := l.all tok && (decide (l ≠ []) && decide (l.length ≤ 40))
theorem bt_c {s : ByteArray} {i : Nat} (h : i < (os s).length) : bt s (i : Int) = (((os s)[i]'h).toNat : Int) := by
  rw [bt_os, List.getElem?_eq_getElem h]; rfl
theorem fin_tok (s : ByteArray) : (if os s = ([] : List UInt8) then (some false : Option Bool) else some (decide ((s.size : Int) ≤ 40))) = some (decide (os s ≠ []) && decide ((os s).length ≤ 40)) := by
  have hsz := size_os s
  by_cases h : os s = []
  · rw [if_pos h, h]; rfl
  · rw [if_neg h, show decide (os s ≠ []) = true from decide_eq_true h, Bool.true_and]
    congr 1
    rw [decide_eq_decide]; omega
theorem tok_p_loop (s : ByteArray) (hs : (os s).length ≤ 1000) : ∀ (n i k : Nat), (os s).length - i ≤ n → i ≤ (os s).length → n + 1 ≤ k → pairs_Token.l0 k s (s.size : Int) (i : Int) = some (((os s).drop i).all tok && (decide (os s ≠ []) && decide ((os s).length ≤ 40))) := by
  have hsz := size_os s
  intro n
  induction n with
  | zero =>
    intro i k h1 h2 h3
    obtain ⟨k, rfl⟩ : ∃ m, k = m + 1 := ⟨k - 1, by omega⟩
    rw [pairs_Token.l0, if_neg (by omega), List.drop_eq_nil_of_le (by omega), toList_os, fin_tok]; rfl
  | succ n ih =>
    intro i k h1 h2 h3
    obtain ⟨k, rfl⟩ : ∃ m, k = m + 1 := ⟨k - 1, by omega⟩
    by_cases hi : i < (os s).length
    · rw [pairs_Token.l0, if_pos (by omega), if_pos (by omega), if_pos (by omega), bt_c hi, bits_or', wrapS (by omega), ih (i + 1) k (by omega) (by omega) (by omega), List.drop_eq_getElem_cons hi, List.all_cons]
      generalize (os s)[i]'hi = c
      rw [Bool.and_assoc]
      generalize (((os s).drop (i + 1)).all tok && (decide (os s ≠ []) && decide ((os s).length ≤ 40))) = rest
      have hf : ∀ c : UInt8, strings_IndexByte.f ⟨#[33, 35, 36, 37, 38, 39, 42, 43, 45, 46, 94, 95, 96, 124, 126]⟩ ((c.toNat : Nat) : Int) = some (firstIdx ⟨#[33, 35, 36, 37, 38, 39, 42, 43, 45, 46, 94, 95, 96, 124, 126]⟩ c) := fun c => by
        unfold strings_IndexByte.f stringslite_IndexByte.f
        rw [Option.bind_some, Int.toNat_natCast, show c.toNat.toUInt8 = c from UInt8.ofNat_toNat]
      have hm := firstIdx_nonneg ⟨#[33, 35, 36, 37, 38, 39, 42, 43, 45, 46, 94, 95, 96, 124, 126]⟩ c
      have hmm : (⟨#[33, 35, 36, 37, 38, 39, 42, 43, 45, 46, 94, 95, 96, 124, 126]⟩ : ByteArray).data.toList = marks := rfl
      rw [hmm] at hm
      have ht : tok c = ((decide (97 ≤ c.toNat ||| 32) && decide (c.toNat ||| 32 ≤ 122)) || ((decide (48 ≤ c.toNat) && decide (c.toNat ≤ 57)) || marks.any (· == c))) := rfl
      rw [ht, ← hm, hf]
      simp only [Option.bind_some]
      generalize firstIdx ⟨#[33, 35, 36, 37, 38, 39, 42, 43, 45, 46, 94, 95, 96, 124, 126]⟩ c = x
      generalize c.toNat ||| 32 = y
      generalize c.toNat = z
      by_cases a1 : (97 : Int) ≤ (y : Int) <;> by_cases a2 : (y : Int) ≤ 122 <;> by_cases a3 : (48 : Int) ≤ (z : Int) <;> by_cases a4 : (z : Int) ≤ 57 <;> by_cases a5 : 0 ≤ x <;> simp [a1, a2, a3, a4, a5, ge_iff_le] <;> omega
    · rw [pairs_Token.l0, if_neg (by omega), List.drop_eq_nil_of_le (by omega), toList_os, fin_tok]; rfl
theorem tok_p (s : ByteArray) (hs : (os s).length ≤ 1000) (k : Nat) (hk : 1100 ≤ k) : pairs_Token.f k s = some (isTok (os s)) := by
  have := tok_p_loop s hs (os s).length 0 k (by omega) (by omega) (by omega)
  rw [List.drop_zero] at this
  exact this
theorem tokR_j2 (k : Nat) (s : ByteArray) (i : Int) (a b : Bool) : tollref05_Token.j2 (k + 1) s i a b = if (b || a) = true then tollref05_Token.l0 k s (wrap64 (i + 1)) else some false := by
  rw [tollref05_Token.j2]; cases a <;> cases b <;> rfl
noncomputable def marksI (n : Int) : Bool := decide (n = 33) || (decide (n = 35) || (decide (n = 36) || (decide (n = 37) || (decide (n = 38) || (decide (n = 39) || (decide (n = 42) || (decide (n = 43) || (decide (n = 45) || (decide (n = 46) || (decide (n = 94) || (decide (n = 95) || (decide (n = 96) || (decide (n = 124) || decide (n = 126))))))))))))))
theorem marks_all : ∀ n : Fin 256, marks.any (· == UInt8.ofNat n) = marksI ((n : Nat) : Int) := by decide +kernel
theorem marks_eq (c : UInt8) : marks.any (· == c) = marksI (c.toNat : Int) := by
  have := marks_all ⟨c.toNat, c.toNat_lt⟩
  rwa [show UInt8.ofNat ((⟨c.toNat, c.toNat_lt⟩ : Fin 256) : Nat) = c from UInt8.ofNat_toNat] at this
theorem tokR_j1 (k : Nat) (s : ByteArray) (i n : Int) (a : Bool) : tollref05_Token.j1 (k + 2) s i n a = if (marksI n || a) = true then tollref05_Token.l0 k s (wrap64 (i + 1)) else some false := by
  have hj : ∀ b : Bool, tollref05_Token.j2 (k + 1) s i a b = if (b || a) = true then tollref05_Token.l0 k s (wrap64 (i + 1)) else some false := tokR_j2 k s i a
  rw [tollref05_Token.j1]
  simp only [hj]
  by_cases h33 : n = 33
  · subst h33; rfl
  by_cases h35 : n = 35
  · subst h35; rfl
  by_cases h36 : n = 36
  · subst h36; rfl
  by_cases h37 : n = 37
  · subst h37; rfl
  by_cases h38 : n = 38
  · subst h38; rfl
  by_cases h39 : n = 39
  · subst h39; rfl
  by_cases h42 : n = 42
  · subst h42; rfl
  by_cases h43 : n = 43
  · subst h43; rfl
  by_cases h45 : n = 45
  · subst h45; rfl
  by_cases h46 : n = 46
  · subst h46; rfl
  by_cases h94 : n = 94
  · subst h94; rfl
  by_cases h95 : n = 95
  · subst h95; rfl
  by_cases h96 : n = 96
  · subst h96; rfl
  by_cases h124 : n = 124
  · subst h124; rfl
  rw [if_neg h33, if_neg h35, if_neg h36, if_neg h37, if_neg h38, if_neg h39, if_neg h42, if_neg h43, if_neg h45, if_neg h46, if_neg h94, if_neg h95, if_neg h96, if_neg h124]
  unfold marksI
  simp only [h33, h35, h36, h37, h38, h39, h42, h43, h45, h46, h94, h95, h96, h124, decide_false, Bool.false_or]
  by_cases h126 : n = 126
  · subst h126; rfl
  · rw [show (n == 126) = false from beq_eq_false_iff_ne.2 h126, show decide (n = 126) = false from decide_eq_false h126]
theorem tok_r_loop (s : ByteArray) (hs : (os s).length ≤ 1000) : ∀ (n i k : Nat), (os s).length - i ≤ n → i ≤ (os s).length → 3 * n + 3 ≤ k → tollref05_Token.l0 k s (i : Int) = some (((os s).drop i).all tok && (decide (os s ≠ []) && decide ((os s).length ≤ 40))) := by
  have hsz := size_os s
  have hend : ∀ k, tollref05_Token.l0 (k + 1) s ((os s).length : Int) = some (decide (os s ≠ []) && decide ((os s).length ≤ 40)) := fun k => by
    rw [tollref05_Token.l0, if_neg (by omega)]
    by_cases h : os s = []
    · rw [if_neg (by rw [hsz, h]; decide), h]; rfl
    · have : 1 ≤ (os s).length := by cases hh : os s with | nil => exact absurd hh h | cons => simp
      rw [if_pos (by omega), show decide (os s ≠ []) = true from decide_eq_true h, Bool.true_and]
      congr 1
      rw [decide_eq_decide]; omega
  intro n
  induction n with
  | zero =>
    intro i k h1 h2 h3
    obtain ⟨k, rfl⟩ : ∃ m, k = m + 1 := ⟨k - 1, by omega⟩
    obtain rfl : i = (os s).length := by omega
    rw [hend, List.drop_length]; rfl
  | succ n ih =>
    intro i k h1 h2 h3
    obtain ⟨k, rfl⟩ : ∃ m, k = m + 3 := ⟨k - 3, by omega⟩
    by_cases hi : i < (os s).length
    · rw [tollref05_Token.l0, if_pos (by omega), if_pos (by omega), bt_c hi]
      simp only [tokR_j1]
      rw [wrapS (by omega), ih (i + 1) k (by omega) (by omega) (by omega), List.drop_eq_getElem_cons hi, List.all_cons, tok_eq]
      generalize (os s)[i]'hi = c
      rw [Bool.and_assoc]
      generalize (((os s).drop (i + 1)).all tok && (decide (os s ≠ []) && decide ((os s).length ≤ 40))) = rest
      rw [tokR, marks_eq]
      generalize marksI (c.toNat : Int) = m
      generalize c.toNat = z
      simp only [show ((48 : Int) ≤ (z : Int)) = (48 ≤ z) from propext (by omega), show ((z : Int) ≤ 57) = (z ≤ 57) from propext (by omega), show ((65 : Int) ≤ (z : Int)) = (65 ≤ z) from propext (by omega), show ((z : Int) ≤ 90) = (z ≤ 90) from propext (by omega), show ((97 : Int) ≤ (z : Int)) = (97 ≤ z) from propext (by omega), show ((z : Int) ≤ 122) = (z ≤ 122) from propext (by omega)]
      by_cases a1 : 48 ≤ z <;> by_cases a2 : z ≤ 57 <;> by_cases a3 : 65 ≤ z <;> by_cases a4 : z ≤ 90 <;> by_cases a5 : 97 ≤ z <;> by_cases a6 : z ≤ 122 <;> cases m <;> simp [a1, a2, a3, a4, a5, a6]
    · obtain rfl : i = (os s).length := by omega
      rw [show k + 3 = (k + 2) + 1 from rfl, hend, List.drop_length]; rfl
theorem tok_r (s : ByteArray) (hs : (os s).length ≤ 1000) (k : Nat) (hk : 3100 ≤ k) : tollref05_Token.f k s = some (isTok (os s)) := by
  have := tok_r_loop s hs (os s).length 0 k (by omega) (by omega) (by omega)
  rw [List.drop_zero] at this
  exact this
noncomputable def isVal (l : List UInt8) : Bool := l.all (fun c => decide (32 ≤ c.toNat) && decide (c.toNat ≤ 126)) && (decide (l.length ≤ 40) && (decide (l.head? ≠ some 32) && decide (l.getLast? ≠ some 32)))
theorem dropWhile_len {α : Type} (p : α → Bool) : ∀ l : List α, (l.dropWhile p).length ≤ l.length ∧ ((l.dropWhile p).length = l.length → l.dropWhile p = l ∧ ∀ a, l.head? = some a → p a = false)
  | [] => ⟨Nat.le_refl _, fun _ => ⟨rfl, fun a h => by cases h⟩⟩
  | a :: r => by
    have ih := dropWhile_len p r
    rw [List.dropWhile_cons]
    cases h : p a with
    | true =>
      simp only [if_true, List.length_cons]
      exact ⟨by omega, fun h => by omega⟩
    | false => exact ⟨Nat.le_refl _, fun _ => ⟨rfl, fun b hb => by cases hb; exact h⟩⟩
theorem dropWhile_id {α : Type} (p : α → Bool) (l : List α) (h : ∀ a, l.head? = some a → p a = false) : l.dropWhile p = l := by
  cases l with
  | nil => rfl
  | cons a r => rw [List.dropWhile_cons, h a rfl]; rfl
noncomputable def valAt (l : List UInt8) (i : Nat) (c : UInt8) : Bool := (decide (32 ≤ c.toNat) && decide (c.toNat ≤ 126)) && !(decide (c = 32) && (decide (i = 0) || decide (i + 1 = l.length)))
theorem val_r_loop (s : ByteArray) (hs : (os s).length ≤ 1000) : ∀ (n i k : Nat), (os s).length - i ≤ n → i ≤ (os s).length → n + 1 ≤ k → ∃ b, tollref05_Value.l0 k s (i : Int) = some b ∧ (b = true ↔ (os s).length ≤ 40 ∧ ∀ j (hj : j < (os s).length), i ≤ j → valAt (os s) j ((os s)[j]'hj) = true) := by
  have hsz := size_os s
  have hend : ∀ k, ∃ b, tollref05_Value.l0 (k + 1) s ((os s).length : Int) = some b ∧ (b = true ↔ (os s).length ≤ 40 ∧ ∀ j (hj : j < (os s).length), (os s).length ≤ j → valAt (os s) j ((os s)[j]'hj) = true) := fun k => by
    rw [tollref05_Value.l0, if_neg (by omega)]
    refine ⟨_, rfl, ?_⟩
    rw [decide_eq_true_eq]
    exact ⟨fun h => ⟨by omega, fun j hj hj' => by omega⟩, fun h => by have := h.1; omega⟩
  intro n
  induction n with
  | zero =>
    intro i k h1 h2 h3
    obtain ⟨k, rfl⟩ : ∃ m, k = m + 1 := ⟨k - 1, by omega⟩
    obtain rfl : i = (os s).length := by omega
    exact hend k
  | succ n ih =>
    intro i k h1 h2 h3
    obtain ⟨k, rfl⟩ : ∃ m, k = m + 1 := ⟨k - 1, by omega⟩
    by_cases hi : i < (os s).length
    · obtain ⟨b, e, hb⟩ := ih (i + 1) k (by omega) (by omega) (by omega)
      have hno : valAt (os s) i ((os s)[i]'hi) = false → ∃ b, some false = some b ∧ (b = true ↔ (os s).length ≤ 40 ∧ ∀ j (hj : j < (os s).length), i ≤ j → valAt (os s) j ((os s)[j]'hj) = true) := fun h => ⟨false, rfl, ⟨fun hf => Bool.noConfusion hf, fun h' => (by have := h'.2 i hi (Nat.le_refl _); rw [h] at this; cases this)⟩⟩
      have hyes : valAt (os s) i ((os s)[i]'hi) = true → ∃ b', some b = some b' ∧ (b' = true ↔ (os s).length ≤ 40 ∧ ∀ j (hj : j < (os s).length), i ≤ j → valAt (os s) j ((os s)[j]'hj) = true) := fun h => ⟨b, rfl, hb.trans ⟨fun h' => ⟨h'.1, fun j hj hij => by
        rcases Nat.lt_or_ge i j with h4 | h4
        · exact h'.2 j hj (by omega)
        · obtain rfl : i = j := by omega
          exact h⟩, fun h' => ⟨h'.1, fun j hj hij => h'.2 j hj (by omega)⟩⟩⟩
      rw [tollref05_Value.l0, if_pos (by omega), bt_c hi, wrapS (by omega), e]
      have hc : ∀ c : UInt8, ((c.toNat : Int) = 32) ↔ c = 32 := fun c => ⟨fun h => UInt8.toNat_inj.1 (by have : (32 : UInt8).toNat = 32 := rfl; omega), fun h => by rw [h]; rfl⟩
      simp only [hc, show ((i : Int) = 0) = (i = 0) from propext (by omega), show ((i : Int) = wrap64 ((s.size : Int) - 1)) = (i + 1 = (os s).length) from propext (by rw [wrap64_id (by omega) (by omega)]; omega)]
      generalize hcc : (os s)[i]'hi = c at *
      have n1 : ((c.toNat : Int) < 32) = ¬ (32 ≤ c.toNat) := propext (by omega)
      have n2 : ((c.toNat : Int) > 126) = ¬ (c.toNat ≤ 126) := propext (by omega)
      have n3 : ((0 : Int) ≤ (i : Int)) = True := eq_true (by omega)
      simp only [n1, n2, n3, if_true]
      by_cases a4 : i = 0
      · rw [if_pos a4]
        by_cases a1 : 32 ≤ c.toNat
        · rw [if_neg (not_not_intro a1)]
          by_cases a2 : c.toNat ≤ 126
          · rw [if_neg (not_not_intro a2)]
            by_cases a3 : c = 32
            · rw [if_pos a3]; exact hno (by unfold valAt; rw [decide_eq_true a3, decide_eq_true a4]; simp)
            · rw [if_neg a3]; exact hyes (by unfold valAt; rw [decide_eq_true a1, decide_eq_true a2, decide_eq_false a3]; rfl)
          · rw [if_pos a2]; exact hno (by unfold valAt; rw [decide_eq_false a2, Bool.and_false]; rfl)
        · rw [if_pos a1]; exact hno (by unfold valAt; rw [decide_eq_false a1]; rfl)
      · rw [if_neg a4]
        by_cases a1 : 32 ≤ c.toNat
        · rw [if_neg (not_not_intro a1)]
          by_cases a2 : c.toNat ≤ 126
          · rw [if_neg (not_not_intro a2)]
            by_cases a3 : c = 32
            · rw [if_pos a3]
              by_cases a5 : i + 1 = (os s).length
              · rw [if_pos a5]; exact hno (by unfold valAt; rw [decide_eq_true a3, decide_eq_true a5]; simp)
              · rw [if_neg a5]; exact hyes (by unfold valAt; rw [decide_eq_true a1, decide_eq_true a2, decide_eq_false a4, decide_eq_false a5]; simp)
            · rw [if_neg a3]; exact hyes (by unfold valAt; rw [decide_eq_true a1, decide_eq_true a2, decide_eq_false a3]; rfl)
          · rw [if_pos a2]; exact hno (by unfold valAt; rw [decide_eq_false a2, Bool.and_false]; rfl)
        · rw [if_pos a1]; exact hno (by unfold valAt; rw [decide_eq_false a1]; rfl)
    · obtain rfl : i = (os s).length := by omega
      exact hend k
theorem val_r (s : ByteArray) (hs : (os s).length ≤ 1000) (k : Nat) (hk : 1100 ≤ k) : tollref05_Value.f k s = some (isVal (os s)) := by
  obtain ⟨b, e, hb⟩ := val_r_loop s hs (os s).length 0 k (by omega) (by omega) (by omega)
  have e' : tollref05_Value.f k s = some b := e
  rw [e']
  congr 1
  rw [Bool.eq_iff_iff, hb]
  unfold isVal
  simp only [Bool.and_eq_true, decide_eq_true_eq, List.all_eq_true]
  constructor
  · rintro ⟨h1, h2⟩
    have h3 : ∀ j (hj : j < (os s).length), valAt (os s) j ((os s)[j]'hj) = true := fun j hj => h2 j hj (Nat.zero_le _)
    refine ⟨fun c hc => ?_, h1, fun h => ?_, fun h => ?_⟩
    · obtain ⟨j, hj, rfl⟩ := List.getElem_of_mem hc
      have := h3 j hj
      unfold valAt at this
      simp only [Bool.and_eq_true, decide_eq_true_eq] at this
      exact this.1
    · rw [List.head?_eq_getElem?] at h
      obtain ⟨hj, h4⟩ := List.getElem?_eq_some_iff.1 h
      have := h3 0 hj
      rw [h4] at this
      revert this; unfold valAt; simp
    · rw [List.getLast?_eq_getElem?] at h
      obtain ⟨hj, h4⟩ := List.getElem?_eq_some_iff.1 h
      have := h3 _ hj
      rw [h4] at this
      revert this; unfold valAt; simp; omega
  · rintro ⟨h1, h2, h3, h4⟩
    refine ⟨h2, fun j hj _ => ?_⟩
    have hc := h1 _ (List.getElem_mem hj)
    unfold valAt
    rw [decide_eq_true hc.1, decide_eq_true hc.2]
    by_cases a : (os s)[j]'hj = 32
    · have n0 : ¬ j = 0 := fun e => by
        subst e
        exact h3 (by rw [List.head?_eq_getElem?, List.getElem?_eq_getElem hj, a])
      have n1 : ¬ j + 1 = (os s).length := fun e => by
        refine h4 ?_
        rw [List.getLast?_eq_getElem?, show (os s).length - 1 = j by omega, List.getElem?_eq_getElem hj, a]
      rw [decide_eq_false n0, decide_eq_false n1, Bool.or_self, Bool.and_false]; rfl
    · rw [decide_eq_false a]; rfl
end Go.Proofs.YtpmllmfamjpinaaGreatDoor.L
namespace Go.Proofs.YtpmllmfamjpinaaGreatDoor.L
open Go Go.RowKit Go.Proofs.YtpmllmfamjpinaaGreatDoor.P Go.Proofs.YtpmllmfamjpinaaGreatDoorW.PrintWords Go.Proofs.YtpmllmfamjpinaaGreatDoorW.PrintLast

noncomputable def big (c : UInt8) : Bool := decide (65 ≤ c.toNat) && decide (c.toNat ≤ 90)
noncomputable def isMeth (l : List UInt8) : Bool := decide (l ≠ []) && (decide (l.length ≤ 10) && l.all big)
theorem meth_p (s : ByteArray) : rule_Method.f s = some (isMeth (os s)) := by
  have hs := size_os s
  unfold rule_Method.f isMeth
  rw [toList_os]
  by_cases h : os s = []
  · rw [if_pos h, h]; rfl
  · rw [if_neg h, decide_eq_true h, Bool.true_and]
    by_cases h2 : (os s).length ≤ 10
    · rw [if_pos (by omega), decide_eq_true h2, Bool.true_and]
      unfold strings_IndexFunc_with_rule_Method_1.f
      rw [Option.bind_some, idxRune_neg _ (fun r hr => by unfold strings_IndexFunc_with_rule_Method_1.p; rw [decide_eq_true (show 90 < r by omega), Bool.or_true])]
      congr 1
      rw [Bool.eq_iff_iff, List.all_eq_true, List.all_eq_true]
      have hb : ∀ c : UInt8, (!strings_IndexFunc_with_rule_Method_1.p c.toNat) = big c := fun c => by
        unfold strings_IndexFunc_with_rule_Method_1.p big
        by_cases a : c.toNat < 65
        · rw [decide_eq_true a, decide_eq_false (show ¬ 65 ≤ c.toNat by omega)]; rfl
        · rw [decide_eq_false a, decide_eq_true (show 65 ≤ c.toNat by omega)]
          by_cases b : 90 < c.toNat
          · rw [decide_eq_true b, decide_eq_false (show ¬ c.toNat ≤ 90 by omega)]; rfl
          · rw [decide_eq_false b, decide_eq_true (show c.toNat ≤ 90 by omega)]; rfl
      exact ⟨fun h c hc => by rw [← hb]; exact h c hc, fun h c hc => by rw [hb]; exact h c hc⟩
    · rw [if_neg (by omega), decide_eq_false h2, Bool.false_and]
theorem meth_r_loop (s : ByteArray) (hs : (os s).length ≤ 1000) : ∀ (n i k : Nat), (os s).length - i ≤ n → i ≤ (os s).length → n + 1 ≤ k → tollref06_Method.l0 k s (i : Int) = some (((os s).drop i).all big && (decide (os s ≠ []) && decide ((os s).length ≤ 10))) := by
  have hsz := size_os s
  have hend : ∀ k, tollref06_Method.l0 (k + 1) s ((os s).length : Int) = some (decide (os s ≠ []) && decide ((os s).length ≤ 10)) := fun k => by
    rw [tollref06_Method.l0, if_neg (by omega)]
    by_cases h : os s = []
    · rw [if_neg (by rw [hsz, h]; decide), h]; rfl
    · have : 1 ≤ (os s).length := by cases hh : os s with | nil => exact absurd hh h | cons => simp
      rw [if_pos (by omega), show decide (os s ≠ []) = true from decide_eq_true h, Bool.true_and]
      congr 1
      rw [decide_eq_decide]; omega
  intro n
  induction n with
  | zero =>
    intro i k h1 h2 h3
    obtain ⟨k, rfl⟩ : ∃ m, k = m + 1 := ⟨k - 1, by omega⟩
    obtain rfl : i = (os s).length := by omega
    rw [hend, List.drop_length]; rfl
  | succ n ih =>
    intro i k h1 h2 h3
    obtain ⟨k, rfl⟩ : ∃ m, k = m + 1 := ⟨k - 1, by omega⟩
    by_cases hi : i < (os s).length
    · rw [tollref06_Method.l0, if_pos (by omega), if_pos (by omega), bt_c hi, wrapS (by omega), ih (i + 1) k (by omega) (by omega) (by omega), List.drop_eq_getElem_cons hi, List.all_cons, big]
      by_cases a1 : ((os s)[i]'hi).toNat < 65
      · rw [if_pos (by omega), show decide (65 ≤ ((os s)[i]'hi).toNat) = false from decide_eq_false (by omega)]; rfl
      · rw [if_neg (by omega), show decide (65 ≤ ((os s)[i]'hi).toNat) = true from decide_eq_true (by omega)]
        by_cases a2 : ((os s)[i]'hi).toNat > 90
        · rw [if_pos (by omega), show decide (((os s)[i]'hi).toNat ≤ 90) = false from decide_eq_false (by omega)]; rfl
        · rw [if_neg (by omega), show decide (((os s)[i]'hi).toNat ≤ 90) = true from decide_eq_true (by omega)]; rfl
    · obtain rfl : i = (os s).length := by omega
      rw [hend, List.drop_length]; rfl
theorem meth_r (s : ByteArray) (hs : (os s).length ≤ 1000) (k : Nat) (hk : 1100 ≤ k) : tollref06_Method.f k s = some (isMeth (os s)) := by
  have := meth_r_loop s hs (os s).length 0 k (by omega) (by omega) (by omega)
  rw [List.drop_zero] at this
  refine Eq.trans this ?_
  unfold isMeth
  cases (os s).all big <;> cases decide (os s ≠ []) <;> cases decide ((os s).length ≤ 10) <;> rfl

noncomputable def isQ (l : List PT) : Bool := l.all (fun x => decide (os x.f0 ≠ []) && (decide ((os x.f0).length ≤ 40) && decide ((os x.f1).length ≤ 40))) && decide (l.length ≤ 20)
theorem q_p_loop (l : List PT) (hl : l.length ≤ 1000) : ∀ (n i k : Nat), l.length - i ≤ n → i ≤ l.length → n + 1 ≤ k → query_May.l0 k l l (l.length : Int) (i : Int) = some ((l.drop i).all (fun x => decide (os x.f0 ≠ []) && (decide ((os x.f0).length ≤ 40) && decide ((os x.f1).length ≤ 40))) && decide (l.length ≤ 20)) := by
  have hend : ∀ k, query_May.l0 (k + 1) l l (l.length : Int) ((l.length : Nat) : Int) = some (decide (l.length ≤ 20)) := fun k => by
    rw [query_May.l0, if_neg (by omega)]
    congr 1
    rw [decide_eq_decide]; omega
  intro n
  induction n with
  | zero =>
    intro i k h1 h2 h3
    obtain ⟨k, rfl⟩ : ∃ m, k = m + 1 := ⟨k - 1, by omega⟩
    obtain rfl : i = l.length := by omega
    rw [hend, List.drop_length]; rfl
  | succ n ih =>
    intro i k h1 h2 h3
    obtain ⟨k, rfl⟩ : ∃ m, k = m + 1 := ⟨k - 1, by omega⟩
    by_cases hi : i < l.length
    · have z0 := size_os (l[i]'hi).f0
      have z1 := size_os (l[i]'hi).f1
      rw [query_May.l0, if_pos (by omega), if_pos (by omega), if_pos (by omega), rd_at l i hi, wrapS (by omega), ih (i + 1) k (by omega) (by omega) (by omega), List.drop_eq_getElem_cons hi, List.all_cons, toList_os]
      by_cases a1 : os (l[i]'hi).f0 = []
      · rw [if_pos a1, show decide (os (l[i]'hi).f0 ≠ []) = false from decide_eq_false (fun h => h a1)]; rfl
      · rw [if_neg a1, show decide (os (l[i]'hi).f0 ≠ []) = true from decide_eq_true a1]
        by_cases a2 : (os (l[i]'hi).f0).length ≤ 40
        · rw [if_neg (by omega), decide_eq_true a2]
          by_cases a3 : (os (l[i]'hi).f1).length ≤ 40
          · rw [if_neg (by omega), decide_eq_true a3]; rfl
          · rw [if_pos (by omega), decide_eq_false a3]; rfl
        · rw [if_pos (by omega), decide_eq_false a2]; rfl
    · obtain rfl : i = l.length := by omega
      rw [hend, List.drop_length]; rfl
theorem q_p (l : List PT) (hl : l.length ≤ 1000) (k : Nat) (hk : 1100 ≤ k) : query_May.f k l = some (isQ l) := by
  have := q_p_loop l hl l.length 0 k (by omega) (by omega) (by omega)
  rw [List.drop_zero] at this
  exact this
theorem q_r_loop (l : List PT) (hl : l.length ≤ 1000) : ∀ (n i k : Nat), l.length - i ≤ n → i ≤ l.length → n + 1 ≤ k → tollref04_May.l0 k l (i : Int) = some ((l.drop i).all (fun x => decide (os x.f0 ≠ []) && (decide ((os x.f0).length ≤ 40) && decide ((os x.f1).length ≤ 40))) && decide (l.length ≤ 20)) := by
  have hend : ∀ k, tollref04_May.l0 (k + 1) l ((l.length : Nat) : Int) = some (decide (l.length ≤ 20)) := fun k => by
    rw [tollref04_May.l0, if_neg (by omega)]
    congr 1
    rw [decide_eq_decide]; omega
  intro n
  induction n with
  | zero =>
    intro i k h1 h2 h3
    obtain ⟨k, rfl⟩ : ∃ m, k = m + 1 := ⟨k - 1, by omega⟩
    obtain rfl : i = l.length := by omega
    rw [hend, List.drop_length]; rfl
  | succ n ih =>
    intro i k h1 h2 h3
    obtain ⟨k, rfl⟩ : ∃ m, k = m + 1 := ⟨k - 1, by omega⟩
    by_cases hi : i < l.length
    · have z0 := size_os (l[i]'hi).f0
      have z1 := size_os (l[i]'hi).f1
      rw [tollref04_May.l0, if_pos (by omega), if_pos (by omega), rd_at l i hi, wrapS (by omega), ih (i + 1) k (by omega) (by omega) (by omega), List.drop_eq_getElem_cons hi, List.all_cons]
      by_cases a1 : os (l[i]'hi).f0 = []
      · rw [if_pos (by rw [z0, a1]; decide), show decide (os (l[i]'hi).f0 ≠ []) = false from decide_eq_false (fun h => h a1)]; rfl
      · have : 1 ≤ (os (l[i]'hi).f0).length := by cases hh : os (l[i]'hi).f0 with | nil => exact absurd hh a1 | cons => simp
        rw [if_neg (by omega), show decide (os (l[i]'hi).f0 ≠ []) = true from decide_eq_true a1]
        by_cases a2 : (os (l[i]'hi).f0).length ≤ 40
        · rw [if_neg (by omega), decide_eq_true a2]
          by_cases a3 : (os (l[i]'hi).f1).length ≤ 40
          · rw [if_neg (by omega), decide_eq_true a3]; rfl
          · rw [if_pos (by omega), decide_eq_false a3]; rfl
        · rw [if_pos (by omega), decide_eq_false a2]; rfl
    · obtain rfl : i = l.length := by omega
      rw [hend, List.drop_length]; rfl
theorem q_r (l : List PT) (hl : l.length ≤ 1000) (k : Nat) (hk : 1100 ≤ k) : tollref04_May.f k l = some (isQ l) := by
  have := q_r_loop l hl l.length 0 k (by omega) (by omega) (by omega)
  rw [List.drop_zero] at this
  exact this

noncomputable def headOK (l : List PT) : Bool := l.all fun x => isTok (os x.f0) && isVal (os x.f1)
noncomputable def row (e : ByteArray → ByteArray → Bool) (l : List PT) (j : Nat) : Bool := (l.take j).any fun x => e x.f0 (l.getD j ⟨⟨#[]⟩, ⟨#[]⟩⟩).f0
end Go.Proofs.YtpmllmfamjpinaaGreatDoor.L
namespace Go.Proofs.YtpmllmfamjpinaaGreatDoor.L
open Go Go.RowKit Go.Proofs.YtpmllmfamjpinaaGreatDoor.P Go.Proofs.YtpmllmfamjpinaaGreatDoorW.PrintWords Go.Proofs.YtpmllmfamjpinaaGreatDoorW.PrintLast

theorem wrapN {i : Nat} (h : i ≤ 100000) : wrap64 ((i : Int) + 1) = ((i + 1 : Nat) : Int) := by rw [wrap64_id (by omega) (by omega)]; omega
theorem rdB (l : List ByteArray) (i : Nat) (h : i < l.length) : rdOf ByteArray.empty l (i : Int) = l[i]'h := by
  unfold rdOf
  rw [Int.toNat_natCast, List.getD_eq_getElem?_getD, List.getElem?_eq_getElem h]; rfl
noncomputable def nm (l : List UInt8) : Bool := decide (l.length ≤ 60) && (pieces 46 ⟨l.toArray⟩).all labB
theorem name_p (s : ByteArray) : dns_Name.f s = some (nm (os s)) := by
  unfold dns_Name.f nm
  rw [size_os s]
end Go.Proofs.YtpmllmfamjpinaaGreatDoor.L
namespace Go.Proofs.YtpmllmfamjpinaaGreatDoor.L
open Go Go.RowKit Go.Proofs.YtpmllmfamjpinaaGreatDoor.P Go.Proofs.YtpmllmfamjpinaaGreatDoorW.PrintWords Go.Proofs.YtpmllmfamjpinaaGreatDoorW.PrintLast

noncomputable def splitL (c : UInt8) : List UInt8 → List (List UInt8)
  | [] => [[]]
  | x :: r => if x = c then [] :: splitL c r else (x :: (splitL c r).headD []) :: (splitL c r).tail
theorem splitL_ne (c : UInt8) : ∀ l, splitL c l ≠ []
  | [] => by rw [splitL]; simp
  | x :: r => by rw [splitL]; split <;> simp
theorem splitL_cons {c : UInt8} {l : List UInt8} : ∃ h t, splitL c l = h :: t := by
  cases h : splitL c l with
  | nil => exact absurd h (splitL_ne c l)
  | cons a b => exact ⟨a, b, rfl⟩
theorem splitL_free {c : UInt8} : ∀ {u : List UInt8}, c ∉ u → splitL c u = [u]
  | [], _ => rfl
  | x :: r, h => by
    have hx : x ≠ c := fun e => h (by rw [e]; simp)
    rw [splitL, if_neg hx, splitL_free (u := r) (fun hm => h (List.mem_cons_of_mem _ hm))]; rfl
theorem splitL_at {c : UInt8} : ∀ {u : List UInt8} (v : List UInt8), c ∉ u → splitL c (u ++ c :: v) = u :: splitL c v
  | [], v, _ => by rw [List.nil_append, splitL, if_pos rfl]
  | x :: r, v, h => by
    have hx : x ≠ c := fun e => h (by rw [e]; simp)
    rw [List.cons_append, splitL, if_neg hx, splitL_at v (fun hm => h (List.mem_cons_of_mem _ hm))]; rfl
theorem get_bang (s : ByteArray) (i : Nat) (h : i < (os s).length) : s[i]! = (os s)[i]'h := by
  have hs := size_os s
  rw [getElem!_pos s i (by omega)]
  rfl
theorem firstIdx_two (s : ByteArray) (c : UInt8) : (firstIdx s c = -1 ∧ c ∉ os s) ∨ ∃ i : Nat, firstIdx s c = (i : Int) ∧ ∃ h : i < (os s).length, c ∉ (os s).take i ∧ (os s)[i] = c := by
  have hs := size_os s
  unfold firstIdx
  cases hf : (List.range s.size).find? (fun i => s[i]! == c) with
  | none =>
    left
    refine ⟨rfl, fun hm => ?_⟩
    obtain ⟨i, hi, hc⟩ := List.getElem_of_mem hm
    have := List.find?_eq_none.1 hf i (List.mem_range.2 (by omega))
    rw [get_bang s i hi, hc] at this
    simp at this
  | some i =>
    right
    have hi := List.mem_range.1 (List.mem_of_find?_eq_some hf)
    have hil : i < (os s).length := by omega
    refine ⟨i, rfl, hil, fun hm => ?_, ?_⟩
    · obtain ⟨j, hj, hc⟩ := List.getElem_of_mem hm
      rw [List.length_take] at hj
      rw [List.getElem_take] at hc
      have h1 := (List.find?_eq_some_iff_getElem.1 hf).2
      obtain ⟨k, hk, hki, hlt⟩ := h1
      rw [List.length_range] at hk
      rw [List.getElem_range] at hki
      subst hki
      have := hlt j (by omega)
      rw [List.getElem_range, get_bang s j (by omega), hc] at this
      simp at this
    · have := List.find?_some hf
      rw [get_bang s i hil] at this
      exact eq_of_beq this
theorem pieces_p (c : UInt8) : ∀ (n : Nat) (s : ByteArray), (os s).length ≤ n → (pieces c s).map os = splitL c (os s) := by
  intro n
  induction n with
  | zero =>
    intro s h
    rcases firstIdx_two s c with ⟨h1, h2⟩ | ⟨i, _, h2, _⟩
    · unfold pieces
      rw [cuts_neg (by rw [h1]; decide), splitL_free h2]; rfl
    · omega
  | succ n ih =>
    intro s h
    have hs := size_os s
    rcases firstIdx_two s c with ⟨h1, h2⟩ | ⟨i, h1, h2, h3, h4⟩
    · unfold pieces
      rw [cuts_neg (by rw [h1]; decide), splitL_free h2]; rfl
    · have e := cuts_cons (fun t => firstIdx t c) 1 (Nat.le_refl _) (fun t h => firstIdx_fit c t h) (s := s) (i := i) h1
      have e2 : os s = (os s).take i ++ c :: (os s).drop (i + 1) := by
        conv => lhs; rw [← List.take_append_drop i (os s), List.drop_eq_getElem_cons h2, h4]
      have e3 : os (s.extract (i + 1) s.size) = (os s).drop (i + 1) := by rw [os_extract, List.take_of_length_le (by rw [List.length_drop]; omega)]
      have e4 : os (s.extract 0 i) = (os s).take i := by rw [os_extract, List.drop_zero, Nat.sub_zero]
      have := ih (s.extract (i + 1) s.size) (by rw [e3, List.length_drop]; omega)
      unfold pieces at this ⊢
      rw [e, List.map_cons, this, e3, e4]
      conv => rhs; rw [e2]
      rw [splitL_at _ h3]
noncomputable def octL (c : UInt8) : Bool := (decide (97 ≤ c.toNat) && decide (c.toNat ≤ 122)) || ((decide (48 ≤ c.toNat) && decide (c.toNat ≤ 57)) || c.toNat == 45)
noncomputable def labL (l : List UInt8) : Bool := decide (l ≠ []) && (decide (l.length ≤ 20) && (l.all octL && (decide (l.head? ≠ some 45) && decide (l.getLast? ≠ some 45))))
theorem lab_p (s : ByteArray) : labB s = labL (os s) := by
  have hs := size_os s
  have h0 : dns_Label.f s = some (labL (os s)) := by
    unfold dns_Label.f labL strings_IndexFunc_with_dns_Label_1.f
    rw [Option.bind_some, toList_os]
    have hi := idxRune_neg strings_IndexFunc_with_dns_Label_1.p (fun r hr => by
      unfold strings_IndexFunc_with_dns_Label_1.p octB
      rw [decide_eq_false (show ¬ r ≤ 122 by omega), decide_eq_false (show ¬ r ≤ 57 by omega), beq_eq_false_iff_ne.2 (show r ≠ 45 by omega)]
      simp) s
    have hall : (s.data.toList.all fun c => !strings_IndexFunc_with_dns_Label_1.p c.toNat) = (os s).all octL := by
      congr 1
      funext c
      unfold strings_IndexFunc_with_dns_Label_1.p octB octL
      rw [Bool.not_not]
    rw [hall] at hi
    by_cases c1 : os s = []
    · rw [if_pos c1, c1]; rfl
    · rw [if_neg c1, decide_eq_true (show os s ≠ [] from c1), Bool.true_and]
      have hl : 0 < (os s).length := by cases h : os s with | nil => exact absurd h c1 | cons => simp
      by_cases c2 : (os s).length ≤ 20
      · rw [if_pos (by omega), decide_eq_true c2, Bool.true_and, wrap64_id (by omega) (by omega)]
        by_cases c3 : idxRune strings_IndexFunc_with_dns_Label_1.p s < 0
        · rw [if_pos c3, if_pos (by omega)]
          rw [decide_eq_true c3] at hi
          rw [← hi, Bool.true_and]
          have b0 : bt s 0 = (((os s)[0]'hl).toNat : Int) := by
            have := bt_os s 0
            rw [List.getElem?_eq_getElem hl] at this
            exact this
          have b1 : bt s ((s.size : Int) - 1) = (((os s)[(os s).length - 1]'(by omega)).toNat : Int) := by
            have := bt_os s ((os s).length - 1)
            rw [List.getElem?_eq_getElem (show (os s).length - 1 < (os s).length by omega)] at this
            rw [show (s.size : Int) - 1 = (((os s).length - 1 : Nat) : Int) by omega]
            exact this
          have g0 : (os s).head? = some ((os s)[0]'hl) := by rw [List.head?_eq_getElem?, List.getElem?_eq_getElem hl]
          have g1 : (os s).getLast? = some ((os s)[(os s).length - 1]'(by omega)) := by rw [List.getLast?_eq_getElem?, List.getElem?_eq_getElem (by omega)]
          have hb : ∀ c : UInt8, ((c.toNat : Int) = 45) ↔ c = 45 := fun c => ⟨fun h => by
            apply UInt8.toNat_inj.1
            show c.toNat = 45
            omega, fun h => by rw [h]; rfl⟩
          rw [b0, g0]
          by_cases c4 : (os s)[0]'hl = 45
          · rw [if_pos ((hb _).2 c4), c4, decide_eq_false (show ¬ some (45 : UInt8) ≠ some 45 by decide)]; rfl
          · rw [if_neg (fun h => c4 ((hb _).1 h)), if_pos (by omega), if_pos (by omega), b1, g1, decide_eq_true (show some ((os s)[0]'hl) ≠ some 45 from fun h => c4 (Option.some.inj h)), Bool.true_and]
            congr 1
            rw [Bool.eq_iff_iff, bne_iff_ne, decide_eq_true_iff]
            exact ⟨fun h h2 => h ((hb _).2 (Option.some.inj h2)), fun h h2 => h (by rw [(hb _).1 h2])⟩
        · rw [if_neg c3]
          rw [decide_eq_false c3] at hi
          rw [← hi]; rfl
      · rw [if_neg (by omega), decide_eq_false c2]; rfl
  unfold labB
  rw [h0]
  cases labL (os s) <;> rfl
noncomputable def nameL (l : List UInt8) : Bool := decide (l.length ≤ 60) && (splitL 46 l).all labL
theorem nm_eq (l : List UInt8) : nm l = nameL l := by
  unfold nm nameL
  have := pieces_p 46 l.length ⟨l.toArray⟩ (Nat.le_refl _)
  rw [show os (⟨l.toArray⟩ : ByteArray) = l from rfl] at this
  rw [← this, List.all_map]
  congr 1
  congr 1
  funext s
  exact lab_p s
end Go.Proofs.YtpmllmfamjpinaaGreatDoor.L
namespace Go.Proofs.YtpmllmfamjpinaaGreatDoor.L
open Go Go.RowKit Go.Proofs.YtpmllmfamjpinaaGreatDoor.P Go.Proofs.YtpmllmfamjpinaaGreatDoorW.PrintWords Go.Proofs.YtpmllmfamjpinaaGreatDoorW.PrintLast

noncomputable def lastN (c : Int) (l : List UInt8) : Nat → Int
  | 0 => -1
  | n + 1 => if ((l[n]?.getD 0).toNat : Int) = c then (n : Int) else lastN c l n
theorem lastN_bound (c : Int) (l : List UInt8) : ∀ n, -1 ≤ lastN c l n ∧ lastN c l n < n
  | 0 => by rw [lastN]; omega
  | n + 1 => by
    have := lastN_bound c l n
    rw [lastN]; split <;> omega
theorem last_loop (s : ByteArray) (c : Int) (hs : (os s).length ≤ 1000) : ∀ (n k : Nat), n ≤ (os s).length → n + 1 ≤ k → bytealg_LastIndexByteString.l0 k s c ((n : Int) - 1) = some (lastN c (os s) n) := by
  have hz := size_os s
  intro n
  induction n with
  | zero =>
    intro k h1 h2
    obtain ⟨k, rfl⟩ : ∃ m, k = m + 1 := ⟨k - 1, by omega⟩
    rw [bytealg_LastIndexByteString.l0, if_neg (by omega), lastN]
  | succ n ih =>
    intro k h1 h2
    obtain ⟨k, rfl⟩ : ∃ m, k = m + 1 := ⟨k - 1, by omega⟩
    rw [bytealg_LastIndexByteString.l0, if_pos (by omega), if_pos (by omega), if_pos (by omega), show ((n + 1 : Nat) : Int) - 1 = (n : Int) by omega, bt_os, lastN, wrap64_id (by omega) (by omega), ih k (by omega) (by omega)]
    split <;> rfl
theorem last_p (s : ByteArray) (c : Int) (hs : (os s).length ≤ 1000) (k : Nat) (hk : 1002 ≤ k) : strings_LastIndexByte.f k s c = some (lastN c (os s) (os s).length) := by
  have hz := size_os s
  unfold strings_LastIndexByte.f bytealg_LastIndexByteString.f
  rw [wrap64_id (by omega) (by omega), hz, last_loop s c hs _ k (Nat.le_refl _) (by omega), Option.bind_some]
noncomputable def digits : List UInt8 := [48, 49, 50, 51, 52, 53, 54, 55, 56, 57]
noncomputable def portL (l : List UInt8) : Bool := decide (1 ≤ l.length) && (decide (l.length ≤ 5) && (Go.Lib.trimS l digits == []))
theorem port_p (s : ByteArray) (hs : (os s).length ≤ 1000) : host_port.f s = some (portL (os s)) := by
  have hz := size_os s
  have ht : strings_Trim.f s ⟨#[48, 49, 50, 51, 52, 53, 54, 55, 56, 57]⟩ = some ⟨(Go.Lib.trimS (os s) digits).toArray⟩ := by
    unfold strings_Trim.f
    rw [if_pos (by omega), if_pos (by decide), if_pos (by decide)]; rfl
  unfold host_port.f portL
  by_cases c1 : 1 ≤ (os s).length
  · rw [if_pos (by omega), decide_eq_true c1]
    by_cases c2 : (os s).length ≤ 5
    · rw [if_pos (by omega), decide_eq_true c2, ht, Option.bind_some, toList_os]; rfl
    · rw [if_neg (by omega), decide_eq_false c2]; rfl
  · rw [if_neg (by omega), decide_eq_false c1]; rfl
theorem suffix_p (s p : ByteArray) (hl : s.size ≤ 9223372036854775807) : stringslite_HasSuffix.f s p = some ((os p).isSuffixOf (os s)) := by
  have hs := size_os s
  have hp := size_os p
  unfold stringslite_HasSuffix.f
  by_cases h : (s.size : Int) ≥ (p.size : Int)
  · have hw : wrap64 ((s.size : Int) - (p.size : Int)) = ((s.size - p.size : Nat) : Int) := by rw [wrap64_id (by omega) (by omega)]; omega
    rw [if_pos h, hw, if_pos (by omega), if_pos (by omega)]
    congr 1
    rw [toList_os, toList_os, os_extract, Int.toNat_natCast, Bool.eq_iff_iff, beq_iff_eq, List.isSuffixOf_iff_suffix, List.take_of_length_le (by simp)]
    rw [List.suffix_iff_eq_drop, ← hs, ← hp]
    exact eq_comm
  · rw [if_neg h]
    congr 1
    symm
    rw [Bool.eq_false_iff]
    intro hc
    have := (List.isSuffixOf_iff_suffix.1 hc).length_le
    omega
theorem trimSuffix_p (s p : ByteArray) (hs : (os s).length ≤ 1000) : ∃ t, strings_TrimSuffix.f s p = some t ∧ os t = if (os p).isSuffixOf (os s) = true then (os s).take ((os s).length - (os p).length) else os s := by
  have hz := size_os s
  have hz2 := size_os p
  unfold strings_TrimSuffix.f stringslite_TrimSuffix.f
  rw [suffix_p s p (by omega), Option.bind_some]
  cases hp : (os p).isSuffixOf (os s) with
  | true =>
    have := (List.isSuffixOf_iff_suffix.1 hp).length_le
    have hw : wrap64 ((s.size : Int) - (p.size : Int)) = ((s.size - p.size : Nat) : Int) := by rw [wrap64_id (by omega) (by omega)]; omega
    rw [if_pos rfl, if_pos rfl, hw, if_pos (by omega), if_pos (by omega), Option.bind_some, Int.toNat_natCast]
    exact ⟨_, rfl, by rw [os_extract, List.drop_zero, Nat.sub_zero, hz, hz2]⟩
  | false =>
    rw [if_neg (by decide), if_neg (by decide), Option.bind_some]
    exact ⟨_, rfl, rfl⟩
noncomputable def noPort (f : List UInt8) : List UInt8 := if (decide (0 ≤ lastN 58 f f.length) && portL (f.drop ((lastN 58 f f.length).toNat + 1))) = true then f.take (lastN 58 f f.length).toNat else f
noncomputable def noDot (g : List UInt8) : List UInt8 := if [46].isSuffixOf g = true then g.take (g.length - 1) else g
noncomputable def ofH (l : List UInt8) : List UInt8 × Int := if nm (noDot (noPort (l.map dns_Fold.b))) = true then (noDot (noPort (l.map dns_Fold.b)), 0) else ([], 2)
theorem of_j1 (x : ByteArray) (hx : (os x).length ≤ 1000) (k : Nat) : ∃ t, host_Of.j1 (k + 1) x = some (t, if nm (noDot (os x)) = true then 0 else 2) ∧ os t = if nm (noDot (os x)) = true then noDot (os x) else [] := by
  obtain ⟨t, h1, h2⟩ := trimSuffix_p x ⟨#[46]⟩ hx
  have h3 : os t = noDot (os x) := h2
  rw [host_Of.j1, h1, Option.bind_some, name_p, Option.bind_some, h3]
  cases nm (noDot (os x)) with
  | true => exact ⟨_, rfl, h3⟩
  | false => exact ⟨_, rfl, rfl⟩
theorem of_h (s : ByteArray) (hs : (os s).length ≤ 100) (k : Nat) (hk : 1010 ≤ k) : ∃ t, host_Of.f k s = some (t, (ofH (os s)).2) ∧ os t = (ofH (os s)).1 := by
  obtain ⟨k, rfl⟩ : ∃ m, k = m + 2 := ⟨k - 2, by omega⟩
  obtain ⟨F, hF⟩ : ∃ F : ByteArray, F = ⟨(nb s).toArray⟩ := ⟨_, rfl⟩
  have hF1 : os F = (os s).map dns_Fold.b := by rw [hF]; rfl
  have hF2 : (os F).length ≤ 100 := by rw [hF1, List.length_map]; exact hs
  have hz := size_os F
  have hb := lastN_bound 58 (os F) (os F).length
  have fin : ∀ x : ByteArray, (os x).length ≤ 1000 → os x = noPort (os F) → ∃ t, host_Of.j1 (k + 1) x = some (t, (ofH (os s)).2) ∧ os t = (ofH (os s)).1 := fun x hx e => by
    obtain ⟨t, h1, h2⟩ := of_j1 x hx k
    refine ⟨t, ?_, ?_⟩
    · rw [h1, e, hF1]; unfold ofH; split <;> rfl
    · rw [h2, e, hF1]; unfold ofH; split <;> rfl
  unfold host_Of.f
  rw [fold_p s (by omega), ← hF, Option.bind_some, last_p F 58 (by omega) _ (by omega), Option.bind_some]
  by_cases c : 0 ≤ lastN 58 (os F) (os F).length
  · have e1 : os (F.extract (wrap64 (lastN 58 (os F) (os F).length + 1)).toNat F.size) = (os F).drop ((lastN 58 (os F) (os F).length).toNat + 1) := by
      rw [wrap64_id (by omega) (by omega), os_extract, List.take_of_length_le (by rw [List.length_drop]; omega)]
      congr 1; omega
    rw [if_pos c, if_pos (by rw [wrap64_id (by omega) (by omega)]; omega), if_pos (by rw [wrap64_id (by omega) (by omega)]; omega), port_p _ (by rw [e1, List.length_drop]; omega), e1, Option.bind_some, host_Of.j0]
    cases hp : portL ((os F).drop ((lastN 58 (os F) (os F).length).toNat + 1)) with
    | true =>
      rw [if_pos rfl, if_pos c, if_pos (by omega)]
      refine fin _ (by rw [os_extract, List.length_take]; omega) ?_
      unfold noPort
      rw [decide_eq_true c, hp, if_pos (show (true && true) = true from rfl), os_extract, List.drop_zero, Nat.sub_zero]
    | false =>
      rw [if_neg (by decide)]
      refine fin F (by omega) ?_
      unfold noPort
      rw [hp, Bool.and_false, if_neg (by decide)]
  · rw [if_neg c, host_Of.j0, if_neg (by decide)]
    refine fin F (by omega) ?_
    unfold noPort
    rw [decide_eq_false c, Bool.false_and, if_neg (by decide)]
end Go.Proofs.YtpmllmfamjpinaaGreatDoor.L
namespace Go.Proofs.YtpmllmfamjpinaaGreatDoor.L
open Go Go.RowKit Go.Proofs.YtpmllmfamjpinaaGreatDoor.P Go.Proofs.YtpmllmfamjpinaaGreatDoorW.PrintWords Go.Proofs.YtpmllmfamjpinaaGreatDoorW.PrintLast
theorem upTo {β : Type} {F : Nat → Option β} (hm : ∀ k, LeO (F k) (F (k + 1))) {k j : Nat} {r : β} (h : F k = some r) (hk : k ≤ j) : F j = some r := by
  obtain ⟨n, rfl⟩ : ∃ n, j = k + n := ⟨j - k, by omega⟩
  clear hk
  induction n with
  | zero => exact h
  | succ n ih => exact hm _ _ ih
theorem index_c (s : ByteArray) (c : UInt8) (k : Nat) (hk : 1 ≤ k) : stringslite_Index.f k s ⟨#[c]⟩ = some (firstIdx s c) := by
  have h := index1 s c
  unfold strings_Index.f at h
  obtain ⟨t, h1, h2⟩ := Option.bind_eq_some_iff.1 h
  rw [Option.some.inj h2] at h1
  exact upTo (F := fun k => stringslite_Index.f k s ⟨#[c]⟩) (fun k => stringslite_Index.mono _ _ k) h1 hk
theorem dropWhile_le {α : Type} (p : α → Bool) (l : List α) : (l.dropWhile p).length ≤ l.length := (List.dropWhile_sublist p).length_le
theorem trim_t (s : ByteArray) (hs : s.size ≤ 100000) : ∃ t, strings_Trim.f s ⟨#[32]⟩ = some t ∧ (os t).length ≤ (os s).length := by
  unfold strings_Trim.f
  rw [if_pos (by omega), if_pos (by decide), if_pos (by decide)]
  refine ⟨_, rfl, ?_⟩
  rw [os_mk]
  unfold Go.Lib.trimS Go.Lib.trimLeftS Go.Lib.trimRightS
  refine Nat.le_trans (dropWhile_le _ _) ?_
  rw [List.length_reverse]
  refine Nat.le_trans (dropWhile_le _ _) ?_
  rw [List.length_reverse]
  exact Nat.le_refl _
theorem all_loop2 (n : ByteArray) (hn : (os n).length ≤ 100) (l : List PT) (hl : Small 1000 l) : ∀ (c i k : Nat) (acc : List ByteArray), l.length - i ≤ c → i ≤ l.length → acc.length ≤ 1000 + i → c + 1 ≤ k → pairs_All.l0 k n acc l (l.length : Int) (i : Int) = some (acc ++ allL n (l.drop i)) := by
  have hl1 := hl.1
  intro c
  induction c with
  | zero =>
    intro i k acc h1 h2 h3 h4
    obtain ⟨k, rfl⟩ : ∃ m, k = m + 1 := ⟨k - 1, by omega⟩
    rw [pairs_All.l0, if_neg (by omega), List.drop_eq_nil_of_le (by omega)]; simp [allL]
  | succ c ih =>
    intro i k acc h1 h2 h3 h4
    obtain ⟨k, rfl⟩ : ∃ m, k = m + 1 := ⟨k - 1, by omega⟩
    rw [pairs_All.l0]
    by_cases hi : i < l.length
    · have hx := (hl.2 _ (List.getElem_mem hi))
      rw [if_pos (by omega), if_pos (by omega), if_pos (by omega), rd_at l i hi, same_p _ _ (by omega) (by omega), Option.bind_some, List.drop_eq_getElem_cons hi, allL, List.filter_cons, wrapS (by omega)]
      cases hq : eqN (l[i]'hi).f0 n with
      | true =>
        rw [if_pos rfl, if_pos (by omega), ih (i + 1) k _ (by omega) (by omega) (by rw [List.length_append, List.length_singleton]; omega) (by omega), List.append_assoc]; rfl
      | false =>
        rw [if_neg (by decide), ih (i + 1) k acc (by omega) (by omega) (by omega) (by omega)]; rfl
    · rw [if_neg (by omega), List.drop_eq_nil_of_le (by omega)]; simp [allL]
theorem asked_t (l : List PT) (hl : Small 1000 l) (k : Nat) (hk : 1100 ≤ k) : ∃ h ok, head_asked.f k l = some (h, ok) := by
  have ha := all_loop2 ⟨#[104, 111, 115, 116]⟩ (by decide) l hl l.length 0 k [] (by omega) (by omega) (by simp) (by have := hl.1; omega)
  unfold head_asked.f pairs_All.f
  rw [show (0 : Int) = ((0 : Nat) : Int) from rfl, ha, Option.bind_some, List.nil_append, List.drop_zero]
  by_cases h : ((allL ⟨#[104, 111, 115, 116]⟩ l).length : Int) = 1
  · rw [if_pos h, if_pos (by omega)]
    obtain ⟨x, hx⟩ : ∃ x, allL ⟨#[104, 111, 115, 116]⟩ l = [x] := List.length_eq_one_iff.1 (by omega)
    have hm : x ∈ allL ⟨#[104, 111, 115, 116]⟩ l := by rw [hx]; exact List.mem_singleton.2 rfl
    obtain ⟨y, hy, rfl⟩ := List.mem_map.1 hm
    obtain ⟨t, e, _⟩ := of_h y.f1 (hl.2 y (List.mem_filter.1 hy).1).2 k (by omega)
    rw [hx, show rdOf ByteArray.empty [y.f1] ((0 : Nat) : Int) = y.f1 from rfl, e, Option.bind_some]
    exact ⟨_, _, rfl⟩
  · rw [if_neg h]; exact ⟨_, _, rfl⟩
noncomputable def iE (s : ByteArray) : Int := Go.Lib.index ((os s).take 1000) [13, 10, 13, 10]
theorem parse_eq (s : ByteArray) (hs : s.size ≤ 100000) (k : Nat) : head_Parse.f (k + 1) s = if iE s < 0 then some (⟨#[]⟩, ⟨#[]⟩, ⟨#[]⟩, [], [], 0, if s.size ≥ 1000 then 5 else 8) else
    (head_read.f k (s.extract 0 (iE s).toNat)).bind fun r => if r.2.2.2.2.2 = true then some (r.1, r.2.1, r.2.2.1, r.2.2.2.1, r.2.2.2.2.1, iE s + 4, 0) else some (⟨#[]⟩, ⟨#[]⟩, ⟨#[]⟩, [], [], 0, 2) := by
  have hz := size_os s
  have hmn : 0 ≤ mn (s.size : Int) 1000 ∧ mn (s.size : Int) 1000 ≤ (s.size : Int) := by unfold mn; constructor <;> split <;> omega
  have hz2 : (s.extract 0 (mn (s.size : Int) 1000 : Int).toNat).size < 4294967281 := by rw [ByteArray.size_extract]; omega
  have hi : Go.Lib.index (s.extract 0 (mn (s.size : Int) 1000 : Int).toNat).data.toList (⟨#[13, 10, 13, 10]⟩ : ByteArray).data.toList = iE s := by
    unfold iE
    have e : (s.extract 0 (mn (s.size : Int) 1000 : Int).toNat).data.toList = (os s).take 1000 := by
      refine (os_extract s 0 _).trans ?_
      rw [List.drop_zero, Nat.sub_zero]
      unfold mn
      split
      · rfl
      · rw [Int.toNat_natCast, List.take_of_length_le (by omega), List.take_of_length_le (by omega)]
    rw [e]
  have hge := Go.Lib.index_ge ((os s).take 1000) [13, 10, 13, 10]
  unfold head_Parse.f strings_IndexM.f
  rw [if_pos hmn.1, if_pos hmn.2, if_pos hz2, Option.bind_some, hi]
  by_cases c : iE s < 0
  · rw [if_pos c, if_pos c, head_Parse.j0]
    by_cases d : (s.size : Int) ≥ 1000
    · rw [decide_eq_true d, if_pos rfl, if_pos (show s.size ≥ 1000 by omega)]
    · rw [decide_eq_false d, if_neg (by decide), if_pos c, if_neg (show ¬ s.size ≥ 1000 by omega)]
  · have hr : (iE s).toNat ≤ (os s).length := by
      rcases Go.Lib.indexB_cases ⟨((os s).take 1000).toArray⟩ ⟨#[13, 10, 13, 10]⟩ with q | ⟨i, q, hq⟩
      · exact absurd (show iE s = -1 from q) (by omega)
      · have : iE s = (i : Int) := q
        have z : (⟨((os s).take 1000).toArray⟩ : ByteArray).size ≤ (os s).length := by rw [size_os, os_mk, List.length_take]; omega
        omega
    rw [if_neg c, if_neg c, head_Parse.j0, if_neg (by decide), if_neg c, if_pos (by omega), if_pos (by omega), wrap64_id (by omega) (by omega)]
theorem same_loop1 (m h p : ByteArray) (q l : List PT) (hl : l.length ≤ 1000) : ∀ (n i k : Nat), l.length - i ≤ n → i ≤ l.length → n + 1 ≤ k → tollref07_SameAsk.l1 k (i : Int) m h p q l m h p q l = some true := by
  intro n
  induction n with
  | zero =>
    intro i k h1 h2 h3
    obtain ⟨k, rfl⟩ : ∃ m, k = m + 1 := ⟨k - 1, by omega⟩
    rw [tollref07_SameAsk.l1, if_neg (by omega)]
  | succ n ih =>
    intro i k h1 h2 h3
    obtain ⟨k, rfl⟩ : ∃ m, k = m + 1 := ⟨k - 1, by omega⟩
    rw [tollref07_SameAsk.l1]
    by_cases hi : i < l.length
    · rw [if_pos (by omega), if_pos (by omega), if_pos (by omega), if_neg (by simp), wrapS (by omega)]
      exact ih (i + 1) k (by omega) (by omega) (by omega)
    · rw [if_neg (by omega)]
theorem same_loop0 (m h p : ByteArray) (q l : List PT) (hq : q.length ≤ 1000) (hl : l.length ≤ 1000) : ∀ (n i k : Nat), q.length - i ≤ n → i ≤ q.length → n + 1003 ≤ k → tollref07_SameAsk.l0 k (i : Int) m h p q l m h p q l = some true := by
  intro n
  induction n with
  | zero =>
    intro i k h1 h2 h3
    obtain ⟨k, rfl⟩ : ∃ m, k = m + 1 := ⟨k - 1, by omega⟩
    rw [tollref07_SameAsk.l0, if_neg (by omega)]
    exact same_loop1 m h p q l hl l.length 0 k (by omega) (by omega) (by omega)
  | succ n ih =>
    intro i k h1 h2 h3
    obtain ⟨k, rfl⟩ : ∃ m, k = m + 1 := ⟨k - 1, by omega⟩
    rw [tollref07_SameAsk.l0]
    by_cases hi : i < q.length
    · rw [if_pos (by omega), if_pos (by omega), if_pos (by omega), if_neg (by simp), wrapS (by omega)]
      exact ih (i + 1) k (by omega) (by omega) (by omega)
    · rw [if_neg (by omega)]
      exact same_loop1 m h p q l hl l.length 0 k (by omega) (by omega) (by omega)
theorem same_ask (m h p : ByteArray) (q l : List PT) (hq : q.length ≤ 1000) (hl : l.length ≤ 1000) (k : Nat) (hk : 2010 ≤ k) : tollref07_SameAsk.f k m h p q l m h p q l = some true := by
  obtain ⟨k, rfl⟩ : ∃ m, k = m + 1 := ⟨k - 1, by omega⟩
  unfold tollref07_SameAsk.f
  rw [if_pos rfl, if_pos rfl, if_pos rfl, if_pos rfl, tollref07_SameAsk.j0, if_neg (by simp)]
  exact same_loop0 m h p q l hq hl q.length 0 k (by omega) (by omega) (by omega)
set_option maxRecDepth 100000 in
theorem head_awake0 : tolllaw18_awake.f 300 = some true := by decide +kernel
theorem head_awake (k : Nat) (hk : 300 ≤ k) : tolllaw18_awake.f k = some true := upTo (F := fun k => tolllaw18_awake.f k) (fun k => tolllaw18_awake.mono k) head_awake0 hk
end Go.Proofs.YtpmllmfamjpinaaGreatDoor.L
namespace Go.Proofs.YtpmllmfamjpinaaGreatDoor.L
open Go Go.RowKit Go.Proofs.YtpmllmfamjpinaaGreatDoor.P Go.Proofs.YtpmllmfamjpinaaGreatDoorW.PrintWords Go.Proofs.YtpmllmfamjpinaaGreatDoorW.PrintLast
theorem plains_ : ∀ n : Fin 256, (match query_Plain.f 3 ((n : Nat) : Int) with | some b => !b || (decide ((n : Nat) ≠ 37) && decide ((n : Nat) ≠ 43)) | none => false) = true := by decide +kernel
theorem plain_p (c : UInt8) (k : Nat) (hk : 3 ≤ k) : ∃ b, query_Plain.f k c.toNat = some b ∧ (b = true → c.toNat ≠ 37 ∧ c.toNat ≠ 43) := by
  have h := plains_ ⟨c.toNat, c.toNat_lt⟩
  cases hq : query_Plain.f 3 ((c.toNat : Nat) : Int) with
  | none => rw [show (((⟨c.toNat, c.toNat_lt⟩ : Fin 256) : Nat) : Int) = (c.toNat : Int) from rfl, hq] at h; cases h
  | some b =>
    rw [show (((⟨c.toNat, c.toNat_lt⟩ : Fin 256) : Nat) : Int) = (c.toNat : Int) from rfl, hq] at h
    refine ⟨b, upTo (F := fun k => query_Plain.f k c.toNat) (fun k => query_Plain.mono _ k) hq hk, fun hb => ?_⟩
    subst hb
    simpa using h
theorem hexes_ : ∀ n : Fin 16, query_digit.f ((query_written.x n).toNat : Int) = some ((n : Nat) : Int) := by decide +kernel
theorem hex_p (n : Nat) (h : n < 16) : query_digit.f ((query_written.x n).toNat : Int) = some (n : Int) := hexes_ ⟨n, h⟩
theorem byte_or : ∀ c : Fin 256, (Go.bits .or .i64 (wrap64 (((c.val / 16 : Nat) : Int) * 16)) ((c.val % 16 : Nat) : Int)) % 256 = (c.val : Int) := by decide +kernel
theorem bt_drop {s : ByteArray} {i : Nat} {c : UInt8} {t : List UInt8} (h : s.data.toList.drop i = c :: t) : i < s.size ∧ bt s (i : Int) = (c.toNat : Int) ∧ s.data.toList.drop (i + 1) = t := by
  have hz : s.data.toList.length = s.size := Array.length_toList
  have hi : i < s.size := by
    rw [← hz]
    rcases Nat.lt_or_ge i s.data.toList.length with h1 | h1
    · exact h1
    · rw [List.drop_of_length_le h1] at h; cases h
  have hg : s.data.toList[i]? = some c := by rw [← List.head?_drop, h]; rfl
  have hc : s[i]'hi = c := by
    rw [Array.getElem?_toList] at hg
    exact Option.some.inj ((Array.getElem?_eq_getElem hi).symm.trans hg)
  refine ⟨hi, ?_, ?_⟩
  · rw [← bt_at s (i : Int) (by rw [Int.toNat_natCast]; exact hi)]
    simp only [Int.toNat_natCast, hc]
  · rw [← List.drop_drop, show 1 = 0 + 1 from rfl, h]; rfl
theorem read_pct (s : ByteArray) (hs : s.size ≤ 1000000) (i k : Nat) (acc : List Int) (x y : Int) (hx : 0 ≤ x) (hy : 0 ≤ y) (hi : i + 2 < s.size) (ha : acc.length ≤ 1000000) (e0 : bt s (i : Int) = 37) (e1 : query_digit.f (bt s ((i + 1 : Nat) : Int)) = some x) (e2 : query_digit.f (bt s ((i + 2 : Nat) : Int)) = some y) :
    query_read.l0 (k + 2) s acc (i : Int) = query_read.l0 k s (acc ++ [(Go.bits .or .i64 (wrap64 (x * 16)) y) % 256]) ((i + 3 : Nat) : Int) := by
  have w1 : wrap64 ((i : Int) + 1) = ((i + 1 : Nat) : Int) := by rw [wrap64_id (by omega) (by omega)]; omega
  have w2 : wrap64 ((i : Int) + 2) = ((i + 2 : Nat) : Int) := by rw [wrap64_id (by omega) (by omega)]; omega
  have w3 : wrap64 (((i + 2 : Nat) : Int) + 1) = ((i + 3 : Nat) : Int) := by rw [wrap64_id (by omega) (by omega)]; omega
  rw [query_read.l0, if_pos (by omega), if_pos (by omega), if_neg (by omega), if_pos e0, w2, if_neg (by omega), w1, if_pos (by omega), if_pos (by omega), e1, Option.bind_some, if_neg (by omega), if_pos (by omega), if_pos (by omega), e2, Option.bind_some, decide_eq_false (by omega)]
  rw [query_read.j1, if_neg (by decide), w1, if_pos (by omega), if_pos (by omega), e1, Option.bind_some, w2, if_pos (by omega), if_pos (by omega), e2, Option.bind_some, if_pos (by omega), w3]
theorem read_enc (s : ByteArray) (hs : s.size ≤ 1000000) (kk : Nat) (hkk : 3 ≤ kk) : ∀ (r y : List UInt8), query_written.g kk r = some y → ∀ (i : Nat) (acc : List Int) (k : Nat), s.data.toList.drop i = y → acc.length + r.length ≤ 1000000 → 2 * r.length + 1 ≤ k → query_read.l0 k s acc (i : Int) = some (strOfNums (acc ++ r.map (fun c => (c.toNat : Int))), true) := by
  intro r
  induction r with
  | nil =>
    intro y hy i acc k hd ha hk
    rw [query_written.g] at hy
    obtain rfl := Option.some.inj hy
    have hi : s.size ≤ i := by
      have := List.drop_eq_nil_iff.1 hd
      rwa [Array.length_toList] at this
    obtain ⟨k, rfl⟩ : ∃ j, k = j + 1 := ⟨k - 1, by omega⟩
    rw [query_read.l0, if_neg (by omega), List.map_nil, List.append_nil]
  | cons c r ih =>
    intro y hy i acc k hd ha hk
    rw [query_written.g] at hy
    obtain ⟨x, hx, hy⟩ := Option.bind_eq_some_iff.1 hy
    obtain ⟨y', hy', hy⟩ := Option.bind_eq_some_iff.1 hy
    obtain rfl := Option.some.inj hy
    rw [List.length_cons] at ha hk
    obtain ⟨k, rfl⟩ : ∃ j, k = j + 1 := ⟨k - 1, by omega⟩
    obtain ⟨b, hb, hp⟩ := plain_p c kk hkk
    rw [query_written.o, hb, Option.bind_some] at hx
    cases b with
    | true =>
      rw [if_pos rfl] at hx
      obtain rfl := Option.some.inj hx
      obtain ⟨h1, h2, h3⟩ := bt_drop (show s.data.toList.drop i = c :: y' from hd)
      obtain ⟨n1, n2⟩ := hp rfl
      rw [query_read.l0, if_pos (by omega), if_pos (by omega), h2, if_neg (by omega), if_neg (by omega), if_pos (by omega), wrap64_id (by omega) (by omega), show (i : Int) + 1 = ((i + 1 : Nat) : Int) by omega]
      rw [ih y' hy' (i + 1) _ k h3 (by rw [List.length_append, List.length_singleton]; omega) (by omega), List.map_cons, List.append_assoc]; rfl
    | false =>
      rw [if_neg (by decide)] at hx
      split at hx
      · next h32 =>
        obtain rfl := Option.some.inj hx
        obtain ⟨h1, h2, h3⟩ := bt_drop (show s.data.toList.drop i = 43 :: y' from hd)
        rw [query_read.l0, if_pos (by omega), if_pos (by omega), h2, if_pos (by decide), if_pos (by omega), wrap64_id (by omega) (by omega), show (i : Int) + 1 = ((i + 1 : Nat) : Int) by omega]
        rw [ih y' hy' (i + 1) _ k h3 (by rw [List.length_append, List.length_singleton]; omega) (by omega), List.map_cons, List.append_assoc, h32]; rfl
      · obtain rfl := Option.some.inj hx
        have hc := c.toNat_lt
        obtain ⟨h1, h2, h3⟩ := bt_drop (show s.data.toList.drop i = 37 :: (query_written.x (c.toNat / 16) :: query_written.x (c.toNat % 16) :: y') from hd)
        obtain ⟨h4, h5, h6⟩ := bt_drop h3
        obtain ⟨h7, h8, h9⟩ := bt_drop h6
        have d1 := hex_p (c.toNat / 16) (by omega)
        have d2 := hex_p (c.toNat % 16) (by omega)
        have hb : (Go.bits .or .i64 (wrap64 (((c.toNat / 16 : Nat) : Int) * 16)) ((c.toNat % 16 : Nat) : Int)) % 256 = (c.toNat : Int) := byte_or ⟨c.toNat, hc⟩
        rw [← h5] at d1
        rw [← h8] at d2
        obtain ⟨k, rfl⟩ : ∃ j, k = j + 1 := ⟨k - 1, by omega⟩
        rw [show k + 1 + 1 = k + 2 from rfl, read_pct s hs i k acc _ _ (Int.natCast_nonneg _) (Int.natCast_nonneg _) (by omega) (by omega) h2 d1 d2, hb]
        rw [ih y' hy' (i + 3) _ k h9 (by rw [List.length_append, List.length_singleton]; omega) (by omega), List.map_cons, List.append_assoc]; rfl
end Go.Proofs.YtpmllmfamjpinaaGreatDoor.L
namespace Go.Proofs.YtpmllmfamjpinaaGreatDoor.L
open Go Go.RowKit Go.Proofs.YtpmllmfamjpinaaGreatDoor.P Go.Proofs.YtpmllmfamjpinaaGreatDoorW.PrintWords Go.Proofs.YtpmllmfamjpinaaGreatDoorW.PrintLast
theorem size_mk (l : List UInt8) : (⟨l.toArray⟩ : ByteArray).size = l.length := size_os _
theorem first_c {s : ByteArray} {c : UInt8} {a b : List UInt8} (h : os s = a ++ c :: b) (ha : c ∉ a) : firstIdx s c = (a.length : Int) := by
  rcases firstIdx_two s c with ⟨_, h2⟩ | ⟨i, h1, h2, h3, h4⟩
  · exact absurd (by rw [h]; simp) h2
  · rw [h1]
    congr 1
    rcases Nat.lt_trichotomy i a.length with h5 | h5 | h5
    · exfalso
      refine ha ?_
      have h6 : (os s)[i]? = a[i]? := by rw [h, List.getElem?_append_left h5]
      rw [List.getElem?_eq_getElem h2, List.getElem?_eq_getElem h5, h4] at h6
      rw [Option.some.inj h6]; exact List.getElem_mem h5
    · exact h5
    · exfalso
      refine h3 ?_
      rw [h, List.take_append, List.take_of_length_le (by omega), show i - a.length = (i - a.length - 1) + 1 by omega, List.take_succ_cons]
      simp
theorem cut_at {s : ByteArray} {c : UInt8} {a b : List UInt8} (h : os s = a ++ c :: b) (ha : c ∉ a) (hs : s.size ≤ 100000) (k : Nat) (hk : 1 ≤ k) : strings_Cut.f k s ⟨#[c]⟩ = some (⟨a.toArray⟩, ⟨b.toArray⟩, true) := by
  have hi := first_c h ha
  have hz := size_os s
  have hz2 := hz
  rw [h, List.length_append, List.length_cons] at hz2
  have e1 : s.extract 0 a.length = ⟨a.toArray⟩ := os_inj (by rw [os_extract, h, List.drop_zero, Nat.sub_zero, List.take_left])
  have e2 : s.extract (a.length + 1) s.size = ⟨b.toArray⟩ := os_inj (by
    rw [os_extract, List.take_of_length_le (by rw [List.length_drop]; omega), h, show a ++ c :: b = (a ++ [c]) ++ b by simp, List.drop_left' (by simp)])
  have hw : wrap64 ((a.length : Int) + ((⟨#[c]⟩ : ByteArray).size : Int)) = ((a.length + 1 : Nat) : Int) := by show wrap64 (_ + 1) = _; rw [wrap64_id (by omega) (by omega)]; omega
  unfold strings_Cut.f stringslite_Cut.f
  rw [index_c s c k hk, Option.bind_some, hi]
  rw [if_pos (by omega), if_pos (by omega), if_pos (by omega), hw, if_pos (by omega), if_pos (by omega), Option.bind_some]
  simp only [Int.toNat_natCast, e1, e2]
theorem cut_no {s : ByteArray} {c : UInt8} (h : c ∉ os s) (k : Nat) (hk : 1 ≤ k) : strings_Cut.f k s ⟨#[c]⟩ = some (s, ⟨#[]⟩, false) := by
  rcases firstIdx_two s c with ⟨h1, _⟩ | ⟨i, _, h2, _, h4⟩
  · unfold strings_Cut.f stringslite_Cut.f
    rw [index_c s c k hk, Option.bind_some, h1, if_neg (by decide), Option.bind_some]
  · exact absurd (by rw [← h4]; exact List.getElem_mem h2) h
noncomputable def qc (c : UInt8) : Bool := decide (33 ≤ c.toNat) && (decide (c.toNat ≤ 126) && (decide (c.toNat ≠ 38) && decide (c.toNat ≠ 61)))
theorem plains2_ : ∀ n : Fin 256, (match query_Plain.f 3 ((n : Nat) : Int) with | some b => !b || qc (UInt8.ofNat n) | none => false) = true := by decide +kernel
theorem plain_q (c : UInt8) (k : Nat) (hk : 3 ≤ k) (hq : query_Plain.f k c.toNat = some true) : qc c = true := by
  have h := plains2_ ⟨c.toNat, c.toNat_lt⟩
  cases hp : query_Plain.f 3 ((c.toNat : Nat) : Int) with
  | none => rw [show (((⟨c.toNat, c.toNat_lt⟩ : Fin 256) : Nat) : Int) = (c.toNat : Int) from rfl, hp] at h; cases h
  | some b =>
    have := upTo (F := fun k => query_Plain.f k c.toNat) (fun k => query_Plain.mono _ k) hp hk
    obtain rfl : b = true := Option.some.inj ((this.symm).trans hq)
    rw [show (((⟨c.toNat, c.toNat_lt⟩ : Fin 256) : Nat) : Int) = (c.toNat : Int) from rfl, hp] at h
    simpa [UInt8.ofNat_toNat] using h
theorem hexq_ : ∀ n : Fin 16, qc (query_written.x n) = true := by decide +kernel
theorem o_q (k : Nat) (hk : 3 ≤ k) (c : UInt8) : ∃ y, query_written.o k c = some y ∧ y.all qc = true ∧ 1 ≤ y.length ∧ y.length ≤ 3 := by
  obtain ⟨b, hb, _⟩ := plain_p c k hk
  have hc := c.toNat_lt
  unfold query_written.o
  rw [hb, Option.bind_some]
  cases b with
  | true => rw [if_pos rfl]; exact ⟨_, rfl, by rw [List.all_cons, plain_q c k hk hb]; rfl, by simp, by simp⟩
  | false =>
    rw [if_neg (by decide)]
    split
    · exact ⟨_, rfl, by decide, by simp, by simp⟩
    · refine ⟨_, rfl, ?_, by simp, by simp⟩
      rw [List.all_cons, List.all_cons, List.all_cons, hexq_ ⟨c.toNat / 16, by omega⟩, hexq_ ⟨c.toNat % 16, by omega⟩]; rfl
theorem g_q (k : Nat) (hk : 3 ≤ k) : ∀ r : List UInt8, ∃ y, query_written.g k r = some y ∧ y.all qc = true ∧ r.length ≤ y.length ∧ y.length ≤ 3 * r.length
  | [] => ⟨[], rfl, rfl, Nat.le_refl _, Nat.le_refl _⟩
  | c :: r => by
    obtain ⟨x, e1, a1, b1, c1⟩ := o_q k hk c
    obtain ⟨y, e2, a2, b2, c2⟩ := g_q k hk r
    exact ⟨x ++ y, by rw [query_written.g, e1, Option.bind_some, e2, Option.bind_some], by rw [List.all_append, a1, a2]; rfl, by rw [List.length_append, List.length_cons]; omega, by rw [List.length_append, List.length_cons]; omega⟩
noncomputable def encW (r : List UInt8) : List UInt8 := (query_written.g 3 r).getD []
theorem encW_p (r : List UInt8) : (encW r).all qc = true ∧ r.length ≤ (encW r).length ∧ (encW r).length ≤ 3 * r.length ∧ query_written.g 3 r = some (encW r) := by
  obtain ⟨y, e, h1, h2, h3⟩ := g_q 3 (Nat.le_refl _) r
  unfold encW
  rw [e]
  exact ⟨h1, h2, h3, rfl⟩
theorem g_enc (k : Nat) (hk : 3 ≤ k) (r : List UInt8) : query_written.g k r = some (encW r) := upTo (F := fun k => query_written.g k r) (fun k => query_written.g_mono r k) (encW_p r).2.2.2 hk
theorem nums_os (r : List UInt8) : strOfNums (r.map fun c => (c.toNat : Int)) = ⟨r.toArray⟩ := os_inj (by
  show List.map _ (List.map _ r) = r
  rw [List.map_map]
  conv => rhs; rw [← List.map_id r]
  exact List.map_congr_left fun c _ => by simp [Function.comp])
theorem read_w (s : ByteArray) (r : List UInt8) (hs : os s = encW r) (hr : r.length ≤ 1000) (k : Nat) (hk : 3001 ≤ k) : query_read.f k s = some (⟨r.toArray⟩, true) := by
  have hz := size_os s
  have he := encW_p r
  rw [hs] at hz
  unfold query_read.f
  rw [if_pos (by omega), if_pos (by omega)]
  have := read_enc s (by omega) 3 (Nat.le_refl _) r (encW r) he.2.2.2 0 [] k (by rw [List.drop_zero]; exact hs) (by simp; omega) (by omega)
  rw [List.nil_append, nums_os] at this
  exact this
noncomputable def enc (x : PT) : List UInt8 := encW (os x.f0) ++ 61 :: encW (os x.f1)
theorem enc_mem {x : PT} {c : UInt8} (h : c ∈ enc x) : c = 61 ∨ qc c = true := by
  unfold enc at h
  rcases List.mem_append.1 h with h | h
  · exact .inr (List.all_eq_true.1 (encW_p _).1 c h)
  · rcases List.mem_cons.1 h with h | h
    · exact .inl h
    · exact .inr (List.all_eq_true.1 (encW_p _).1 c h)
theorem enc_len (x : PT) : (enc x).length ≤ 3 * ((os x.f0).length + (os x.f1).length) + 1 ∧ 1 ≤ (enc x).length := by
  have h1 := encW_p (os x.f0)
  have h2 := encW_p (os x.f1)
  unfold enc
  rw [List.length_append, List.length_cons]
  constructor <;> omega
theorem go_q (k : Nat) (hk : 3001 ≤ k) : ∀ (l : List PT) (ps : List ByteArray) (acc : List PT), ps.map os = l.map enc → (∀ x ∈ l, (os x.f0).length ≤ 40 ∧ (os x.f1).length ≤ 40) → acc.length + l.length ≤ 1000 → query_Parse.go k ps acc = some (some (acc ++ l))
  | [], ps, acc, h, _, _ => by
    obtain rfl : ps = [] := by simpa using h
    rw [query_Parse.go, List.append_nil]
  | x :: l, [], acc, h, _, _ => by simp at h
  | x :: l, p :: ps, acc, h, hx, ha => by
    rw [List.map_cons, List.map_cons] at h
    obtain ⟨h1, h2⟩ := List.cons.inj h
    have hx0 := hx x List.mem_cons_self
    have hl := enc_len x
    have hz := size_os p
    rw [h1] at hz
    rw [List.length_cons] at ha
    have hno : (61 : UInt8) ∉ encW (os x.f0) := fun hm => by have := List.all_eq_true.1 (encW_p (os x.f0)).1 61 hm; revert this; decide
    have hf : ∀ y : ByteArray, (⟨(os y).toArray⟩ : ByteArray) = y := fun y => os_inj rfl
    rw [query_Parse.go, cut_at h1 hno (by omega) k (by omega), Option.bind_some]
    dsimp only
    rw [read_w ⟨(encW (os x.f0)).toArray⟩ (os x.f0) rfl (by omega) k hk, Option.bind_some, read_w ⟨(encW (os x.f1)).toArray⟩ (os x.f1) rfl (by omega) k hk, Option.bind_some]
    dsimp only
    rw [if_pos rfl, if_pos rfl, if_pos (by omega), hf, hf, go_q k hk l ps _ h2 (fun y hy => hx y (List.mem_cons_of_mem _ hy)) (by rw [List.length_append, List.length_singleton]; omega), List.append_assoc]; rfl
theorem join_two (a b : List UInt8) (r : List (List UInt8)) (sep : List UInt8) : Lib.join (a :: b :: r) sep = a ++ (sep ++ Lib.join (b :: r) sep) := by
  rw [Lib.join_cons, Lib.join_cons]
  unfold Lib.joinTail
  rw [List.map_cons, List.flatten_cons, List.append_assoc]
theorem split_join (c : UInt8) : ∀ (a : List UInt8) (r : List (List UInt8)), (∀ x ∈ a :: r, c ∉ x) → splitL c (Lib.join (a :: r) [c]) = a :: r
  | a, [], h => by rw [Lib.join_one, splitL_free (h a List.mem_cons_self)]
  | a, b :: r, h => by
    rw [join_two, List.singleton_append, splitL_at _ (h a List.mem_cons_self), split_join c b r (fun x hx => h x (List.mem_cons_of_mem _ hx))]
noncomputable def encQ (l : List PT) : List UInt8 := Lib.join (l.map enc) [38]
theorem encQ_mem : ∀ {l : List PT} {c : UInt8}, c ∈ encQ l → c = 38 ∨ c = 61 ∨ qc c = true := by
  intro l
  induction l with
  | nil => intro c h; simp [encQ, Lib.join_nil] at h
  | cons x l ih =>
    intro c h
    unfold encQ at h
    cases l with
    | nil =>
      rw [List.map_cons, List.map_nil, Lib.join_one] at h
      exact .inr (enc_mem h)
    | cons y l =>
      rw [List.map_cons, List.map_cons, join_two] at h
      rcases List.mem_append.1 h with h | h
      · exact .inr (enc_mem h)
      · rcases List.mem_append.1 h with h | h
        · exact .inl (List.mem_singleton.1 h)
        · exact ih h
theorem encQ_len : ∀ {l : List PT}, (∀ x ∈ l, (os x.f0).length ≤ 40 ∧ (os x.f1).length ≤ 40) → (encQ l).length ≤ 250 * l.length := by
  intro l
  induction l with
  | nil => intro _; simp [encQ, Lib.join_nil]
  | cons x l ih =>
    intro h
    have hx := h x List.mem_cons_self
    have he := enc_len x
    unfold encQ
    cases l with
    | nil => rw [List.map_cons, List.map_nil, Lib.join_one]; simp; omega
    | cons y l =>
      have := ih (fun z hz => h z (List.mem_cons_of_mem _ hz))
      unfold encQ at this
      rw [List.map_cons] at this
      rw [List.map_cons, List.map_cons, join_two, List.length_append, List.length_append, List.length_cons (a := x)]
      simp only [List.length_cons, List.length_nil] at this ⊢
      omega
theorem encQ_ne {x : PT} {l : List PT} : encQ (x :: l) ≠ [] := by
  have he := enc_len x
  unfold encQ
  rw [List.map_cons, Lib.join_cons]
  intro h
  have := congrArg List.length h
  rw [List.length_append, List.length_nil] at this
  omega
theorem isQ_all {l : List PT} (h : isQ l = true) : (∀ x ∈ l, (os x.f0).length ≤ 40 ∧ (os x.f1).length ≤ 40) ∧ l.length ≤ 20 := by
  unfold isQ at h
  rw [Bool.and_eq_true, List.all_eq_true, decide_eq_true_eq] at h
  refine ⟨fun x hx => ?_, h.2⟩
  have := h.1 x hx
  simp only [Bool.and_eq_true, decide_eq_true_eq] at this
  exact this.2
theorem parse_enc (l : List PT) (h : isQ l = true) (k : Nat) (hk : 3001 ≤ k) : query_Parse.f k ⟨(encQ l).toArray⟩ = some (l, 0) := by
  obtain ⟨h1, h2⟩ := isQ_all h
  have hlen := encQ_len h1
  unfold query_Parse.f
  rw [toList_os, os_mk]
  cases l with
  | nil => rw [if_pos (by simp [encQ, Lib.join_nil])]
  | cons x l =>
    have hz := size_mk ((encQ (x :: l)))
    have hp : (pieces 38 (⟨(encQ (x :: l)).toArray⟩ : ByteArray)).map os = (x :: l).map enc := by
      rw [pieces_p 38 _ _ (Nat.le_refl _), os_mk]
      unfold encQ
      rw [List.map_cons]
      refine split_join 38 _ _ fun y hy hm => ?_
      rw [← List.map_cons] at hy
      obtain ⟨z, _, rfl⟩ := List.mem_map.1 hy
      rcases enc_mem hm with h | h
      · revert h; decide
      · revert h; decide
    rw [if_neg encQ_ne, if_pos (by omega), go_q k hk (x :: l) _ [] hp h1 (by simp at h2 ⊢; omega), Option.bind_some, List.nil_append]
    simp only [query_Parse.end_]
    rw [q_p _ (by omega) k (by omega), Option.bind_some, h, if_pos rfl]
noncomputable def askL (q : List PT) : List UInt8 := if encQ q = [] then [] else 63 :: encQ q
noncomputable def lineL (m p : List UInt8) (q : List PT) : List UInt8 := m ++ 32 :: ((p ++ askL q) ++ 32 :: [72, 84, 84, 80, 47, 49, 46, 49])
theorem meth_mem {m : List UInt8} (h : isMeth m = true) {c : UInt8} (hc : c ∈ m) : 65 ≤ c.toNat ∧ c.toNat ≤ 90 := by
  unfold isMeth at h
  simp only [Bool.and_eq_true, List.all_eq_true] at h
  have := h.2.2 c hc
  unfold big at this
  simpa using this
theorem path_mem {p : List UInt8} (h : isPath p = true) {c : UInt8} (hc : c ∈ p) : 33 ≤ c.toNat ∧ c.toNat ≤ 126 ∧ c.toNat ≠ 63 := by
  unfold isPath at h
  simp only [Bool.and_eq_true, List.all_eq_true] at h
  have := h.1 c hc
  unfold pok at this
  simp at this
  exact ⟨this.1, this.2.1, this.2.2.1⟩
theorem ask_mem {q : List PT} {c : UInt8} (h : c ∈ askL q) : 33 ≤ c.toNat ∧ c.toNat ≤ 126 := by
  unfold askL at h
  split at h
  · cases h
  · rcases List.mem_cons.1 h with rfl | h
    · decide
    · rcases encQ_mem h with rfl | rfl | h
      · decide
      · decide
      · unfold qc at h
        simp at h
        exact ⟨h.1, h.2.1⟩
theorem meth_len {m : List UInt8} (h : isMeth m = true) : 1 ≤ m.length ∧ m.length ≤ 10 := by
  unfold isMeth at h
  simp only [Bool.and_eq_true, decide_eq_true_eq] at h
  exact ⟨List.length_pos_iff.2 h.1, h.2.1⟩
theorem first_l (s m p : ByteArray) (q : List PT) (hm : isMeth (os m) = true) (hp : isPath (os p) = true) (hq : isQ q = true) (hs : os s = lineL (os m) (os p) q) (k : Nat) (hk : 3010 ≤ k) : head_first.f k s = some (m, ⟨#[]⟩, p, q, [], true) := by
  obtain ⟨k, rfl⟩ : ∃ m, k = m + 1 := ⟨k - 1, by omega⟩
  obtain ⟨hq1, hq2⟩ := isQ_all hq
  have hlen := encQ_len hq1
  have hml := meth_len hm
  have hpl := isPath_len hp
  have hz := size_os s
  have hal : (askL q).length ≤ (encQ q).length + 1 := by unfold askL; split <;> simp
  have hf : ∀ y : ByteArray, (⟨(os y).toArray⟩ : ByteArray) = y := fun y => os_inj rfl
  have hz2 := hz
  rw [hs] at hz2
  unfold lineL at hz2
  simp only [List.length_append, List.length_cons, List.length_nil] at hz2
  have n1 : (32 : UInt8) ∉ os m := fun h => by have := meth_mem hm h; revert this; decide
  have n2 : (32 : UInt8) ∉ os p ++ askL q := fun h => by
    rcases List.mem_append.1 h with h | h
    · have := path_mem hp h; revert this; decide
    · have := ask_mem h; revert this; decide
  have n3 : (63 : UInt8) ∉ os p := fun h => by have := path_mem hp h; revert this; decide
  have e1 := cut_at (s := s) (c := 32) (a := os m) (b := (os p ++ askL q) ++ 32 :: [72, 84, 84, 80, 47, 49, 46, 49]) hs n1 (by omega) (k + 1) (by omega)
  have z2 := size_mk (((os p ++ askL q) ++ 32 :: [72, 84, 84, 80, 47, 49, 46, 49]))
  simp only [List.length_append, List.length_cons, List.length_nil] at z2
  have e2 := cut_at (s := ⟨((os p ++ askL q) ++ 32 :: [72, 84, 84, 80, 47, 49, 46, 49]).toArray⟩) (c := 32) (a := os p ++ askL q) (b := [72, 84, 84, 80, 47, 49, 46, 49]) rfl n2 (by omega) (k + 1) (by omega)
  unfold head_first.f
  rw [e1, Option.bind_some]
  dsimp only
  rw [e2, Option.bind_some]
  dsimp only
  rw [if_pos (by rw [toList_os]), meth_p, Option.bind_some, os_mk, hm, Bool.not_true, head_first.j0, if_neg (by decide)]
  have z3 := size_mk ((os p ++ askL q))
  rw [List.length_append] at z3
  by_cases h0 : encQ q = []
  · have ha : askL q = [] := by unfold askL; rw [if_pos h0]
    have hqn : q = [] := by cases q with | nil => rfl | cons x l => exact absurd h0 encQ_ne
    have e3 := cut_no (s := ⟨(os p ++ askL q).toArray⟩) (c := 63) (by rw [os_mk, ha, List.append_nil]; exact n3) k (by omega)
    have e4 : query_Parse.f k ⟨#[]⟩ = some (q, 0) := by rw [← parse_enc q hq k (by omega), h0]
    rw [e3, Option.bind_some]
    dsimp only
    rw [e4, Option.bind_some]
    dsimp only
    rw [if_pos rfl, path_is, Option.bind_some, os_mk, ha, List.append_nil, hp, if_pos rfl, if_neg Bool.false_ne_true, hf, hf]
  · have ha : askL q = 63 :: encQ q := by unfold askL; rw [if_neg h0]
    have e3 := cut_at (s := ⟨(os p ++ askL q).toArray⟩) (c := 63) (a := os p) (b := encQ q) (by rw [os_mk, ha]) n3 (by omega) k (by omega)
    rw [e3, Option.bind_some]
    dsimp only
    rw [parse_enc q hq k (by omega), Option.bind_some]
    dsimp only
    rw [if_pos rfl, path_is, Option.bind_some, os_mk, hp, if_pos rfl, if_pos rfl, if_neg (by rw [toList_os, os_mk]; exact h0), hf, hf]
end Go.Proofs.YtpmllmfamjpinaaGreatDoor.L
namespace Go.Proofs.YtpmllmfamjpinaaGreatDoor.L
open Go Go.RowKit Go.Proofs.YtpmllmfamjpinaaGreatDoor.P Go.Proofs.YtpmllmfamjpinaaGreatDoorW.PrintWords Go.Proofs.YtpmllmfamjpinaaGreatDoorW.PrintLast
theorem trim_s (s : ByteArray) (hs : s.size ≤ 100000) : ∃ t, strings_Trim.f s ⟨#[32]⟩ = some t ∧ os t = Lib.trimS (os s) [32] := by
  unfold strings_Trim.f
  rw [if_pos (by omega), if_pos (by decide), if_pos (by decide)]
  exact ⟨_, rfl, by rw [os_mk]⟩
theorem has32 (c : UInt8) : ([32] : List UInt8).contains c = (c == 32) := by
  show (match c == 32 with | true => true | false => false) = _
  cases c == 32 <;> rfl
theorem trimS_iff (l : List UInt8) : Lib.trimS l [32] = l ↔ l.head? ≠ some 32 ∧ l.getLast? ≠ some 32 := by
  unfold Lib.trimS Lib.trimLeftS Lib.trimRightS
  simp only [has32]
  constructor
  · intro he
    have d2 := dropWhile_len (· == (32 : UInt8)) l.reverse
    have d1 := dropWhile_len (· == (32 : UInt8)) (l.reverse.dropWhile (· == (32 : UInt8))).reverse
    have e0 := congrArg List.length he
    rw [List.length_reverse] at d1 d2
    have e3 : (l.reverse.dropWhile (· == (32 : UInt8))).length = l.length := by omega
    have e4 : (l.reverse.dropWhile (· == (32 : UInt8))).reverse = l := by rw [(d2.2 e3).1, List.reverse_reverse]
    have f2 := (d2.2 e3).2
    have f1 := (d1.2 (by omega)).2
    rw [e4] at f1
    refine ⟨fun h => ?_, fun h => ?_⟩
    · have := f1 32 h; simp at this
    · rw [List.head?_reverse] at f2
      have := f2 32 h; simp at this
  · rintro ⟨f1, f2⟩
    have e1 : (l.reverse.dropWhile (· == (32 : UInt8))).reverse = l := by
      rw [dropWhile_id, List.reverse_reverse]
      intro a ha
      rw [List.head?_reverse] at ha
      refine beq_eq_false_iff_ne.2 fun e => f2 ?_
      rw [ha, e]
    rw [e1, dropWhile_id]
    intro a ha
    refine beq_eq_false_iff_ne.2 fun e => f1 ?_
    rw [ha, e]
theorem trimS_32 (l : List UInt8) (h : Lib.trimS l [32] = l) : Lib.trimS (32 :: l) [32] = l := by
  obtain ⟨f1, f2⟩ := (trimS_iff l).1 h
  unfold Lib.trimS Lib.trimLeftS Lib.trimRightS
  simp only [has32]
  by_cases h0 : l = []
  · subst h0; rfl
  · have e1 : ((32 :: l).reverse.dropWhile (· == (32 : UInt8))).reverse = 32 :: l := by
      rw [dropWhile_id, List.reverse_reverse]
      intro a ha
      rw [List.head?_reverse, List.getLast?_cons] at ha
      refine beq_eq_false_iff_ne.2 fun e => f2 ?_
      rw [List.getLast?_eq_some_getLast h0] at ha ⊢
      rw [← e, ← ha]; rfl
    rw [e1, List.dropWhile_cons, if_pos (by decide), dropWhile_id]
    intro a ha
    refine beq_eq_false_iff_ne.2 fun e => f1 ?_
    rw [ha, e]
theorem val18_loop (s : ByteArray) (hs : (os s).length ≤ 1000) : ∀ (n i k : Nat), (os s).length - i ≤ n → i ≤ (os s).length → n + 1 ≤ k → pairs_Value.l0 k s (s.size : Int) (i : Int) = some (((os s).drop i).all (fun c => decide (32 ≤ c.toNat) && decide (c.toNat ≤ 126)) && (decide ((os s).length ≤ 40) && (decide ((os s).head? ≠ some 32) && decide ((os s).getLast? ≠ some 32)))) := by
  have hsz := size_os s
  have hend : ∀ k, pairs_Value.l0 (k + 1) s (s.size : Int) ((os s).length : Int) = some (decide ((os s).length ≤ 40) && (decide ((os s).head? ≠ some 32) && decide ((os s).getLast? ≠ some 32))) := fun k => by
    rw [pairs_Value.l0, if_neg (by omega)]
    obtain ⟨t, h1, h2⟩ := trim_s s (by omega)
    have h3 := trimS_iff (os s)
    rw [← h2] at h3
    have h4 : decide (os t = os s) = (decide ((os s).head? ≠ some 32) && decide ((os s).getLast? ≠ some 32)) := by
      rw [Bool.eq_iff_iff, decide_eq_true_eq, h3, Bool.and_eq_true, decide_eq_true_eq, decide_eq_true_eq]
    by_cases h : (os s).length ≤ 40
    · rw [if_pos (by omega), h1, Option.bind_some, toList_os, toList_os, decide_eq_true h, Bool.true_and, ← h4]
      first | rfl | (congr 1; rw [Bool.eq_iff_iff, beq_iff_eq, decide_eq_true_eq])
    · rw [if_neg (by omega), decide_eq_false h, Bool.false_and]
  intro n
  induction n with
  | zero =>
    intro i k h1 h2 h3
    obtain ⟨k, rfl⟩ : ∃ m, k = m + 1 := ⟨k - 1, by omega⟩
    obtain rfl : i = (os s).length := by omega
    rw [hend k, List.drop_length]; rfl
  | succ n ih =>
    intro i k h1 h2 h3
    obtain ⟨k, rfl⟩ : ∃ m, k = m + 1 := ⟨k - 1, by omega⟩
    by_cases hi : i < (os s).length
    · rw [pairs_Value.l0, if_pos (by omega), if_pos (by omega), if_pos (by omega), bt_c hi, wrapS (by omega), ih (i + 1) k (by omega) (by omega) (by omega), List.drop_eq_getElem_cons hi, List.all_cons]
      by_cases a1 : ((os s)[i]'hi).toNat < 32
      · rw [if_pos (by omega), show decide (32 ≤ ((os s)[i]'hi).toNat) = false from decide_eq_false (by omega)]; rfl
      · rw [if_neg (by omega), show decide (32 ≤ ((os s)[i]'hi).toNat) = true from decide_eq_true (by omega)]
        by_cases a2 : ((os s)[i]'hi).toNat > 126
        · rw [if_pos (by omega), show decide (((os s)[i]'hi).toNat ≤ 126) = false from decide_eq_false (by omega)]; rfl
        · rw [if_neg (by omega), show decide (((os s)[i]'hi).toNat ≤ 126) = true from decide_eq_true (by omega)]; rfl
    · obtain rfl : i = (os s).length := by omega
      rw [hend k, List.drop_length]; rfl
theorem val18 (s : ByteArray) (hs : (os s).length ≤ 1000) (k : Nat) (hk : 1002 ≤ k) : pairs_Value.f k s = some (isVal (os s)) := by
  have := val18_loop s hs (os s).length 0 k (by omega) (by omega) (by omega)
  rw [List.drop_zero] at this
  exact this
theorem isTok_len {l : List UInt8} (h : isTok l = true) : 1 ≤ l.length ∧ l.length ≤ 40 := by
  unfold isTok at h
  simp only [Bool.and_eq_true, decide_eq_true_eq] at h
  exact ⟨List.length_pos_iff.2 h.2.1, h.2.2⟩
theorem isVal_len {l : List UInt8} (h : isVal l = true) : l.length ≤ 40 := by
  unfold isVal at h
  simp only [Bool.and_eq_true, decide_eq_true_eq] at h
  exact h.2.1
theorem isVal_trim {l : List UInt8} (h : isVal l = true) : Lib.trimS l [32] = l := by
  unfold isVal at h
  simp only [Bool.and_eq_true, decide_eq_true_eq] at h
  exact (trimS_iff l).2 ⟨h.2.2.1, h.2.2.2⟩
theorem tok_no : ∀ n : Fin 256, tok (UInt8.ofNat n) = true → ((n : Nat) ≠ 58 ∧ (n : Nat) ≠ 13) := by decide +kernel
theorem tok_mem {l : List UInt8} (h : isTok l = true) {c : UInt8} (hc : c ∈ l) : c.toNat ≠ 58 ∧ c.toNat ≠ 13 := by
  unfold isTok at h
  simp only [Bool.and_eq_true, List.all_eq_true] at h
  have := tok_no ⟨c.toNat, c.toNat_lt⟩ (by
    show tok (UInt8.ofNat c.toNat) = true
    rw [UInt8.ofNat_toNat]; exact h.1 c hc)
  exact this
theorem val_mem {l : List UInt8} (h : isVal l = true) {c : UInt8} (hc : c ∈ l) : 32 ≤ c.toNat ∧ c.toNat ≤ 126 := by
  unfold isVal at h
  simp only [Bool.and_eq_true, List.all_eq_true] at h
  have := h.1 c hc
  simpa using this
noncomputable def rowL (x : PT) : List UInt8 := os x.f0 ++ 58 :: 32 :: os x.f1
theorem field_v (s n : ByteArray) (v : List UInt8) (hn : isTok (os n) = true) (hv : v.length ≤ 900) (hs : os s = os n ++ 58 :: v) (k : Nat) (hk : 1100 ≤ k) : head_field.f k s = some (n, ⟨(Lib.trimS v [32]).toArray⟩, isVal (Lib.trimS v [32])) := by
  have ln := isTok_len hn
  have hz := size_os s
  rw [hs, List.length_append, List.length_cons] at hz
  have hf : ∀ y : ByteArray, (⟨(os y).toArray⟩ : ByteArray) = y := fun y => os_inj rfl
  have z2 := size_mk v
  obtain ⟨t, h1, h2⟩ := trim_s ⟨v.toArray⟩ (by omega)
  obtain ⟨t', h1', h2'⟩ := trim_t ⟨v.toArray⟩ (by omega)
  obtain rfl : t = t' := Option.some.inj (h1.symm.trans h1')
  rw [os_mk v] at h2 h2'
  have ht : t = ⟨(Lib.trimS v [32]).toArray⟩ := os_inj h2
  unfold head_field.f
  rw [cut_at hs (fun hm => (tok_mem hn hm).1 rfl) (by omega) k (by omega), Option.bind_some]
  dsimp only
  rw [h1, Option.bind_some, if_pos rfl, hf, tok_p n (by omega) k (by omega), Option.bind_some, hn, if_pos rfl, val18 t (by omega) k (by omega), Option.bind_some, h2, ht]
theorem field_l (s : ByteArray) (x : PT) (hn : isTok (os x.f0) = true) (hv : isVal (os x.f1) = true) (hs : os s = rowL x) (k : Nat) (hk : 1100 ≤ k) : head_field.f k s = some (x.f0, x.f1, true) := by
  have h1 := isVal_len hv
  rw [field_v s x.f0 (32 :: os x.f1) hn (by rw [List.length_cons]; omega) hs k hk, trimS_32 _ (isVal_trim hv), hv]
theorem idx_skip (c : UInt8) (t r : List UInt8) : ∀ a : List UInt8, c ∉ a → Lib.index (a ++ r) (c :: t) = if Lib.index r (c :: t) = -1 then -1 else Lib.index r (c :: t) + a.length
  | [], _ => by
    rw [List.nil_append, List.length_nil]
    split
    · next h => exact h
    · omega
  | b :: a, h => by
    have ih := idx_skip c t r a (fun hm => h (List.mem_cons_of_mem _ hm))
    have hge := Lib.index_ge r (c :: t)
    have hb : (c == b) = false := beq_eq_false_iff_ne.2 fun e => h (by rw [e]; exact List.mem_cons_self)
    rw [List.cons_append, Lib.index, List.isPrefixOf, hb, Bool.false_and, if_neg Bool.false_ne_true, ih, List.length_cons]
    by_cases h1 : Lib.index r (c :: t) = -1
    · rw [if_pos h1, if_pos h1]; rfl
    · rw [if_neg h1, if_neg h1, if_neg (by rw [beq_iff_eq]; omega)]; omega
theorem idx_none (c : UInt8) (t a : List UInt8) (h : c ∉ a) : Lib.index a (c :: t) = -1 := by
  have := idx_skip c t [] a h
  rw [List.append_nil] at this
  rw [this]; rfl
theorem crlf_fit (s : ByteArray) (h : 0 ≤ Lib.index s.data.toList (⟨#[13, 10]⟩ : ByteArray).data.toList) : (Lib.index s.data.toList (⟨#[13, 10]⟩ : ByteArray).data.toList).toNat + (⟨#[13, 10]⟩ : ByteArray).size ≤ s.size := by
  rcases Go.Lib.indexB_cases s ⟨#[13, 10]⟩ with q | ⟨i, q, hq⟩
  · have : Lib.index s.data.toList (⟨#[13, 10]⟩ : ByteArray).data.toList = -1 := q
    omega
  · have : Lib.index s.data.toList (⟨#[13, 10]⟩ : ByteArray).data.toList = (i : Int) := q
    omega
theorem piecesM_j : ∀ (r : List (List UInt8)) (a : List UInt8) (s : ByteArray), os s = Lib.join (a :: r) [13, 10] → (∀ x ∈ a :: r, (13 : UInt8) ∉ x) → (piecesM ⟨#[13, 10]⟩ s).map os = a :: r
  | [], a, s, hs, h => by
    rw [Lib.join_one] at hs
    have hi : Lib.index s.data.toList (⟨#[13, 10]⟩ : ByteArray).data.toList = -1 := by
      show Lib.index (os s) [13, 10] = -1
      rw [hs]; exact idx_none 13 [10] a (h a List.mem_cons_self)
    unfold piecesM
    rw [cuts_neg (by rw [hi]; decide)]
    show [os s] = [a]
    rw [hs]
  | b :: r, a, s, hs, h => by
    rw [join_two] at hs
    have hz := size_os s
    have hi : Lib.index s.data.toList (⟨#[13, 10]⟩ : ByteArray).data.toList = (a.length : Int) := by
      show Lib.index (os s) [13, 10] = _
      rw [hs, idx_skip 13 [10] _ a (h a List.mem_cons_self), show Lib.index ([13, 10] ++ Lib.join (b :: r) [13, 10]) [13, 10] = 0 from rfl, if_neg (by decide)]; omega
    have e3 : os (s.extract (a.length + 2) s.size) = Lib.join (b :: r) [13, 10] := by
      rw [os_extract, List.take_of_length_le (by rw [List.length_drop]; omega), hs, ← List.append_assoc, List.drop_left' (by rw [List.length_append]; rfl)]
    have e4 : os (s.extract 0 a.length) = a := by rw [os_extract, List.drop_zero, Nat.sub_zero, hs, List.take_left]
    have ih := piecesM_j r b (s.extract (a.length + 2) s.size) e3 (fun x hx => h x (List.mem_cons_of_mem _ hx))
    unfold piecesM at ih ⊢
    rw [show (⟨#[13, 10]⟩ : ByteArray).size = 2 from rfl] at ih ⊢
    rw [cuts_cons _ 2 (by decide) (fun t ht => crlf_fit t ht) (i := a.length) hi, List.map_cons, e4, ih]
theorem idx_head (behind : List UInt8) : ∀ (r : List (List UInt8)) (a : List UInt8), (∀ x ∈ a :: r, (13 : UInt8) ∉ x ∧ x ≠ []) → Lib.index (Lib.join (a :: r) [13, 10] ++ 13 :: 10 :: 13 :: 10 :: behind) [13, 10, 13, 10] = ((Lib.join (a :: r) [13, 10]).length : Int)
  | [], a, h => by
    rw [Lib.join_one, idx_skip 13 [10, 13, 10] _ a (h a List.mem_cons_self).1, show Lib.index (13 :: 10 :: 13 :: 10 :: behind) [13, 10, 13, 10] = 0 from rfl, if_neg (by decide)]; omega
  | b :: r, a, h => by
    have ih := idx_head behind r b (fun x hx => h x (List.mem_cons_of_mem _ hx))
    have hb := h b (List.mem_cons_of_mem _ List.mem_cons_self)
    obtain ⟨c, b', rfl⟩ : ∃ c b', b = c :: b' := List.exists_cons_of_ne_nil hb.2
    have hc : ((13 : UInt8) == c) = false := beq_eq_false_iff_ne.2 fun e => hb.1 (by rw [e]; exact List.mem_cons_self)
    obtain ⟨z, hz⟩ : ∃ z, Lib.join ((c :: b') :: r) [13, 10] ++ 13 :: 10 :: 13 :: 10 :: behind = c :: z := by
      rw [Lib.join_cons]; exact ⟨_, rfl⟩
    have hl : ((Lib.join ((c :: b') :: r) [13, 10]).length : Int) ≠ -1 := by omega
    rw [join_two, List.append_assoc, idx_skip 13 [10, 13, 10] _ a (h a List.mem_cons_self).1, List.append_assoc]
    have e : Lib.index ([13, 10] ++ (Lib.join ((c :: b') :: r) [13, 10] ++ 13 :: 10 :: 13 :: 10 :: behind)) [13, 10, 13, 10] = ((Lib.join ((c :: b') :: r) [13, 10]).length : Int) + 2 := by
      rw [hz] at ih ⊢
      show Lib.index (13 :: 10 :: c :: z) [13, 10, 13, 10] = _
      rw [Lib.index, show ([13, 10, 13, 10] : List UInt8).isPrefixOf (13 :: 10 :: c :: z) = false from by
        simp only [List.isPrefixOf, hc, Bool.false_and, Bool.and_false], if_neg Bool.false_ne_true, Lib.index, show ([13, 10, 13, 10] : List UInt8).isPrefixOf (10 :: c :: z) = false from rfl, if_neg Bool.false_ne_true, ih]
      rw [show (((Lib.join ((c :: b') :: r) [13, 10]).length : Int) == -1) = false from beq_eq_false_iff_ne.2 hl, if_neg Bool.false_ne_true, if_neg (by rw [beq_iff_eq]; omega)]; omega
    rw [e, if_neg (by omega)]
    simp only [List.length_append, List.length_cons, List.length_nil]
    omega
theorem join_end (sep : List UInt8) : ∀ (r : List (List UInt8)) (a : List UInt8), Lib.join (a :: r) sep ++ sep = a ++ sep ++ (r.map (· ++ sep)).flatten
  | [], a => by rw [Lib.join_one]; simp
  | b :: r, a => by rw [join_two, List.append_assoc, List.append_assoc, join_end sep r b, List.map_cons, List.flatten_cons]; simp [List.append_assoc]
structure GoodR (m h p : ByteArray) (q l : List PT) : Prop where
  qq : isQ q = true
  mm : isMeth (os m) = true
  pp : isPath (os p) = true
  ll : headOK l = true
  n30 : l.length ≤ 30
  host : head_asked.f 1100 l = some (h, true)
theorem headOK_mem {l : List PT} (h : headOK l = true) {x : PT} (hx : x ∈ l) : isTok (os x.f0) = true ∧ isVal (os x.f1) = true := by
  unfold headOK at h
  have := List.all_eq_true.1 h x hx
  rwa [Bool.and_eq_true] at this
noncomputable def linesL (m p : List UInt8) (q l : List PT) : List (List UInt8) := lineL m p q :: l.map rowL
noncomputable def bodyL (m p : List UInt8) (q l : List PT) : List UInt8 := Lib.join (linesL m p q l) [13, 10]
theorem GoodR.lines {m h p : ByteArray} {q l : List PT} (g : GoodR m h p q l) : ∀ x ∈ linesL (os m) (os p) q l, (13 : UInt8) ∉ x ∧ x ≠ [] := by
  intro x hx
  unfold linesL at hx
  rcases List.mem_cons.1 hx with rfl | hx
  · refine ⟨fun h => ?_, by unfold lineL; simp⟩
    unfold lineL at h
    rcases List.mem_append.1 h with h | h
    · have := meth_mem g.mm h; revert this; decide
    · rcases List.mem_cons.1 h with h | h
      · revert h; decide
      · rcases List.mem_append.1 h with h | h
        · rcases List.mem_append.1 h with h | h
          · have := path_mem g.pp h; revert this; decide
          · have := ask_mem h; revert this; decide
        · revert h; decide
  · obtain ⟨y, hy, rfl⟩ := List.mem_map.1 hx
    have h1 := headOK_mem g.ll hy
    refine ⟨fun h => ?_, by unfold rowL; simp⟩
    unfold rowL at h
    rcases List.mem_append.1 h with h | h
    · exact (tok_mem h1.1 h).2 rfl
    · rcases List.mem_cons.1 h with h | h
      · revert h; decide
      · rcases List.mem_cons.1 h with h | h
        · revert h; decide
        · have := val_mem h1.2 h; revert this; decide
theorem rows_l (k : Nat) (hk : 1100 ≤ k) (a b c : ByteArray) (q : List PT) : ∀ (l : List PT) (ps : List ByteArray) (acc : List PT), ps.map os = l.map rowL → headOK l = true → acc.length + l.length ≤ 1000 → head_read.go k ps (some (a, b, c, q, acc)) = some (some (some (a, b, c, q, acc ++ l)))
  | [], ps, acc, h, _, _ => by
    obtain rfl : ps = [] := by simpa using h
    rw [head_read.go, List.append_nil]
  | x :: l, [], acc, h, _, _ => by simp at h
  | x :: l, p :: ps, acc, h, hh, ha => by
    rw [List.map_cons, List.map_cons] at h
    obtain ⟨h1, h2⟩ := List.cons.inj h
    have hx := headOK_mem hh (List.mem_cons_self (a := x) (l := l))
    have hh2 : headOK l = true := by unfold headOK at hh ⊢; rw [List.all_cons, Bool.and_eq_true] at hh; exact hh.2
    rw [List.length_cons] at ha
    simp only [head_read.go]
    rw [field_l p x hx.1 hx.2 h1 k hk, Option.bind_some]
    dsimp only
    rw [if_pos rfl, if_pos (by omega), rows_l k hk a b c q l ps _ h2 hh2 (by rw [List.length_append, List.length_singleton]; omega), List.append_assoc]; rfl
theorem asked_up {l : List PT} {r : ByteArray × Bool} (h : head_asked.f 1100 l = some r) {k : Nat} (hk : 1100 ≤ k) : head_asked.f k l = some r := upTo (F := fun k => head_asked.f k l) (fun k => head_asked.mono l k) h hk
theorem GoodR.read {m h p : ByteArray} {q l : List PT} (g : GoodR m h p q l) (s : ByteArray) (hs : os s = bodyL (os m) (os p) q l) (hz : s.size ≤ 100000) (k : Nat) (hk : 3010 ≤ k) : head_read.f k s = some (m, h, p, q, l, true) := by
  have hp : (piecesM ⟨#[13, 10]⟩ s).map os = linesL (os m) (os p) q l := piecesM_j _ _ s hs (fun x hx => (g.lines x hx).1)
  obtain ⟨p0, ps, e⟩ : ∃ p0 ps, piecesM ⟨#[13, 10]⟩ s = p0 :: ps := List.exists_cons_of_ne_nil (fun e => by rw [e] at hp; simp [linesL] at hp)
  have n30 := g.n30
  rw [e, List.map_cons] at hp
  unfold linesL at hp
  obtain ⟨h1, h2⟩ := List.cons.inj hp
  unfold head_read.f
  rw [if_pos (by omega), e]
  simp only [head_read.go]
  rw [first_l p0 m p q g.mm g.pp g.qq h1 k hk, Option.bind_some]
  dsimp only
  rw [if_pos rfl, rows_l k (by omega) _ _ _ _ l ps [] h2 g.ll (by simp; omega), Option.bind_some, List.nil_append]
  simp only [head_read.end_]
  rw [asked_up g.host (by omega), Option.bind_some]
  dsimp only
  rw [if_pos rfl, if_pos g.n30]
noncomputable def headL (m p : List UInt8) (q l : List PT) : List UInt8 := bodyL m p q l ++ [13, 10, 13, 10]
theorem GoodR.parse {m h p : ByteArray} {q l : List PT} (g : GoodR m h p q l) (s : ByteArray) (behind : List UInt8) (hs : os s = headL (os m) (os p) q l ++ behind) (hl : (headL (os m) (os p) q l).length ≤ 1000) (hz : s.size ≤ 100000) (k : Nat) (hk : 3011 ≤ k) : head_Parse.f k s = some (m, h, p, q, l, ((headL (os m) (os p) q l).length : Int), 0) := by
  obtain ⟨k, rfl⟩ : ∃ m, k = m + 1 := ⟨k - 1, by omega⟩
  unfold headL at hs hl ⊢
  rw [List.length_append, List.length_cons, List.length_cons, List.length_cons, List.length_cons, List.length_nil] at hl
  have hi : iE s = ((bodyL (os m) (os p) q l).length : Int) := by
    unfold iE
    rw [hs, List.append_assoc, List.take_append, List.take_of_length_le (by omega)]
    have : ([13, 10, 13, 10] ++ behind).take (1000 - (bodyL (os m) (os p) q l).length) = 13 :: 10 :: 13 :: 10 :: behind.take (1000 - (bodyL (os m) (os p) q l).length - 4) := by
      rw [List.take_append, List.take_of_length_le (by simp; omega)]; rfl
    rw [this]
    exact idx_head _ _ _ g.lines
  have hb : os (s.extract 0 (bodyL (os m) (os p) q l).length) = bodyL (os m) (os p) q l := by rw [os_extract, List.drop_zero, Nat.sub_zero, hs, List.append_assoc, List.take_left]
  have hw := size_os (s.extract 0 (bodyL (os m) (os p) q l).length)
  rw [hb] at hw
  rw [parse_eq s hz, hi, if_neg (by omega), Int.toNat_natCast, g.read _ hb (by omega) k (by omega), Option.bind_some]
  dsimp only
  rw [if_pos rfl, List.length_append]; rfl
end Go.Proofs.YtpmllmfamjpinaaGreatDoor.L
namespace Go.Proofs.YtpmllmfamjpinaaGreatDoor.L
open Go Go.RowKit Go.Proofs.YtpmllmfamjpinaaGreatDoor.P Go.Proofs.YtpmllmfamjpinaaGreatDoorW.PrintWords Go.Proofs.YtpmllmfamjpinaaGreatDoorW.PrintLast
noncomputable def encB (x : PT) : ByteArray := ⟨(enc x).toArray⟩
theorem written_f (s : ByteArray) (hs : s.size ≤ 1000) (k : Nat) (hk : 3 ≤ k) : query_written.f k s = some ⟨(encW (os s)).toArray⟩ := by
  unfold query_written.f
  rw [if_pos (by omega), g_enc k hk, Option.bind_some]
theorem text_loop (q : List PT) (h : ∀ x ∈ q, (os x.f0).length ≤ 40 ∧ (os x.f1).length ≤ 40) (hq : q.length ≤ 1000) : ∀ (n i k : Nat) (acc : List ByteArray), q.length - i ≤ n → i ≤ q.length → acc.length ≤ 1000 + i → n + 4 ≤ k → query_Text.l0 k acc q (q.length : Int) (i : Int) = (strings_Join.f (acc ++ (q.drop i).map encB) ⟨#[38]⟩).bind fun t => some (t, 0) := by
  intro n
  induction n with
  | zero =>
    intro i k acc h1 h2 h3 h4
    obtain ⟨k, rfl⟩ : ∃ m, k = m + 1 := ⟨k - 1, by omega⟩
    rw [query_Text.l0, if_neg (by omega), List.drop_eq_nil_of_le (by omega), List.map_nil, List.append_nil]
  | succ n ih =>
    intro i k acc h1 h2 h3 h4
    obtain ⟨k, rfl⟩ : ∃ m, k = m + 1 := ⟨k - 1, by omega⟩
    rw [query_Text.l0]
    by_cases hi : i < q.length
    · have hx := h _ (List.getElem_mem hi)
      have z0 := size_os (q[i]'hi).f0
      have z1 := size_os (q[i]'hi).f1
      have y0 := encW_p (os (q[i]'hi).f0)
      have y1 := encW_p (os (q[i]'hi).f1)
      have w0 := size_mk (encW (os (q[i]'hi).f0))
      have w1 := size_mk (encW (os (q[i]'hi).f1))
      have w2 : ((⟨(encW (os (q[i]'hi).f0)).toArray⟩ : ByteArray) ++ (⟨#[61]⟩ : ByteArray)).size = (encW (os (q[i]'hi).f0)).length + 1 := by
        rw [size_os, os_append, List.length_append]; rfl
      have e : ((⟨(encW (os (q[i]'hi).f0)).toArray⟩ : ByteArray) ++ (⟨#[61]⟩ : ByteArray)) ++ (⟨(encW (os (q[i]'hi).f1)).toArray⟩ : ByteArray) = encB (q[i]'hi) := os_inj (by
        rw [os_append, os_append]
        show (encW (os (q[i]'hi).f0) ++ [61]) ++ encW (os (q[i]'hi).f1) = enc (q[i]'hi)
        unfold enc; rw [List.append_assoc]; rfl)
      rw [if_pos (by omega), if_pos (by omega), if_pos (by omega), rd_at q i hi, written_f _ (by omega) k (by omega), Option.bind_some, if_pos (by omega), written_f _ (by omega) k (by omega), Option.bind_some, if_pos (by rw [w2]; omega), if_pos (by omega), e, wrapS (by omega)]
      rw [ih (i + 1) k _ (by omega) (by omega) (by rw [List.length_append, List.length_singleton]; omega) (by omega), List.drop_eq_getElem_cons hi, List.map_cons, List.append_assoc]; rfl
    · rw [if_neg (by omega), List.drop_eq_nil_of_le (by omega), List.map_nil, List.append_nil]
theorem text_l (q : List PT) (h : isQ q = true) (k : Nat) (hk : 1200 ≤ k) : query_Text.f k q = some (⟨(encQ q).toArray⟩, 0) := by
  obtain ⟨h1, h2⟩ := isQ_all h
  have hlen := encQ_len h1
  have he : ((q.map encB).map fun x => x.data.toList) = q.map enc := by rw [List.map_map]; rfl
  unfold query_Text.f
  rw [q_p q (by omega) k (by omega), Option.bind_some, h, if_pos rfl, if_pos (by omega), if_pos (by omega), show (0 : Int) = ((0 : Nat) : Int) from rfl, text_loop q h1 (by omega) q.length 0 k [] (by omega) (by omega) (by simp) (by omega), List.drop_zero, List.nil_append]
  unfold strings_Join.f
  rw [he, show (⟨#[38]⟩ : ByteArray).data.toList = [38] from rfl, if_pos ⟨by show (encQ q).length ≤ _; omega, by rw [List.length_map]; omega⟩, Option.bind_some]; rfl
theorem row_f (k : Nat) (hk : 1100 ≤ k) (x : PT) (h : isTok (os x.f0) = true) (hv : isVal (os x.f1) = true) : head_Lay.row k x = some (some (rowL x ++ [13, 10])) := by
  have h1 := isTok_len h
  have h2 := isVal_len hv
  unfold head_Lay.row rowL
  rw [tok_p _ (by omega) k (by omega), Option.bind_some, h, if_pos rfl, val18 _ (by omega) k (by omega), Option.bind_some, hv, if_pos rfl]
  simp [List.append_assoc]
theorem rows_f (k : Nat) (hk : 1100 ≤ k) : ∀ l : List PT, headOK l = true → head_Lay.rows k l = some (some ((l.map fun x => rowL x ++ [13, 10]).flatten))
  | [], _ => rfl
  | x :: l, h => by
    have hx := headOK_mem h (List.mem_cons_self (a := x) (l := l))
    have h2 : headOK l = true := by unfold headOK at h ⊢; rw [List.all_cons, Bool.and_eq_true] at h; exact h.2
    rw [head_Lay.rows, row_f k hk x hx.1 hx.2, Option.bind_some, if_neg (by simp), rows_f k hk l h2, Option.bind_some]; rfl
theorem wt_le : ∀ l : List PT, headOK l = true → head_Lay.wt l ≤ 100 * l.length
  | [], _ => Nat.le_refl _
  | x :: l, h => by
    have hx := headOK_mem h (List.mem_cons_self (a := x) (l := l))
    have h2 : headOK l = true := by unfold headOK at h ⊢; rw [List.all_cons, Bool.and_eq_true] at h; exact h.2
    have h3 := isTok_len hx.1
    have h4 := isVal_len hx.2
    have ih := wt_le l h2
    have z0 := size_os x.f0
    have z1 := size_os x.f1
    unfold head_Lay.wt at ih ⊢
    rw [List.map_cons, List.sum_cons, List.length_cons]
    omega
noncomputable def layEnd (m p : List UInt8) (q l : List PT) : ByteArray × Int := if (headL m p q l).length > 1000 then (⟨#[]⟩, 5) else (⟨(headL m p q l).toArray⟩, 0)
theorem line_eq (m p : ByteArray) (q : List PT) : head_Lay.line m p ⟨(encQ q).toArray⟩ = lineL (os m) (os p) q ++ [13, 10] := by
  have hz := size_mk (encQ q)
  unfold head_Lay.line head_Lay.asks lineL askL
  by_cases h : encQ q = []
  · rw [if_pos (by rw [hz, h]; rfl), if_pos h]; simp [List.append_assoc]
  · rw [if_neg (by rw [hz]; exact fun e => h (List.length_eq_zero_iff.1 e)), if_neg h]; simp [List.append_assoc]
theorem GoodR.lay {m h p : ByteArray} {q l : List PT} (g : GoodR m h p q l) (k : Nat) (hk : 1200 ≤ k) : head_Lay.f k m h p q l = some (layEnd (os m) (os p) q l) := by
  obtain ⟨h1, h2⟩ := isQ_all g.qq
  have hlen := encQ_len h1
  have hm := meth_len g.mm
  have hp := isPath_len g.pp
  have hw := wt_le l g.ll
  have n30 := g.n30
  have z0 := size_os m
  have z1 := size_os p
  have hz := size_mk (encQ q)
  unfold head_Lay.f
  rw [text_l q g.qq k hk, Option.bind_some, asked_up g.host (by omega), Option.bind_some]
  dsimp only
  rw [if_pos rfl, if_pos rfl, if_pos rfl, meth_p, Option.bind_some, g.mm, if_pos rfl, path_is, Option.bind_some, g.pp, if_pos rfl, decide_eq_false (by omega)]
  unfold head_Lay.j0
  rw [if_neg (by decide), if_pos (by omega), rows_f k (by omega) l g.ll, Option.bind_some]
  have e : head_Lay.line m p ⟨(encQ q).toArray⟩ ++ (l.map fun x => rowL x ++ [13, 10]).flatten ++ [13, 10] = headL (os m) (os p) q l := by
    have := join_end [13, 10] (l.map rowL) (lineL (os m) (os p) q)
    rw [List.map_map] at this
    rw [line_eq]
    unfold headL bodyL linesL
    rw [show ([13, 10, 13, 10] : List UInt8) = [13, 10] ++ [13, 10] from rfl, ← List.append_assoc, this]; rfl
  unfold head_Lay.end_ layEnd
  simp only [e]
end Go.Proofs.YtpmllmfamjpinaaGreatDoor.L
namespace Go.Proofs.YtpmllmfamjpinaaGreatDoor.L
open Go Go.RowKit Go.Proofs.YtpmllmfamjpinaaGreatDoor.P Go.Proofs.YtpmllmfamjpinaaGreatDoorW.PrintWords Go.Proofs.YtpmllmfamjpinaaGreatDoorW.PrintLast
theorem asked18 (a b c : ByteArray) (q h : List PT) (n : Nat) (hn : 70 ≤ n) : tolllaw06_Asked.f n a b c q h = some (few a, few b, few c, fewL q, fewL h) := by
  unfold tolllaw06_Asked.f
  rw [few_eq, Option.bind_some, few_eq, Option.bind_some, few_eq, Option.bind_some, fewL_eq _ _ hn, Option.bind_some, fewL_eq _ _ hn, Option.bind_some]
theorem text_any (q : List PT) (hq : q.length ≤ 1000) (k : Nat) (hk : 1200 ≤ k) : query_Text.f k q = some (if isQ q = true then (⟨(encQ q).toArray⟩, 0) else (⟨#[]⟩, 1)) := by
  cases h : isQ q with
  | true => rw [if_pos rfl]; exact text_l q h k hk
  | false =>
    rw [if_neg (by decide)]
    unfold query_Text.f
    rw [q_p q hq k (by omega), Option.bind_some, h, if_neg (by decide)]
theorem row_any (k : Nat) (hk : 1100 ≤ k) (x : PT) (h0 : (os x.f0).length ≤ 1000) (h1 : (os x.f1).length ≤ 1000) : head_Lay.row k x = some (if (isTok (os x.f0) && isVal (os x.f1)) = true then some (rowL x ++ [13, 10]) else none) := by
  unfold head_Lay.row
  rw [tok_p _ h0 k (by omega), Option.bind_some]
  cases ht : isTok (os x.f0) with
  | false => rfl
  | true =>
    rw [if_pos rfl, val18 _ h1 k (by omega), Option.bind_some]
    cases hv : isVal (os x.f1) with
    | false => rfl
    | true =>
      have := row_f k hk x ht hv
      unfold head_Lay.row at this
      rw [tok_p _ h0 k (by omega), Option.bind_some, ht, if_pos rfl, val18 _ h1 k (by omega), Option.bind_some, hv] at this
      exact this
theorem rows_any (k : Nat) (hk : 1100 ≤ k) : ∀ l : List PT, (∀ x ∈ l, (os x.f0).length ≤ 1000 ∧ (os x.f1).length ≤ 1000) → headOK l = false → head_Lay.rows k l = some none
  | [], _, h => by cases h
  | x :: l, hl, h => by
    have hx := hl x List.mem_cons_self
    have e := row_any k hk x hx.1 hx.2
    rw [head_Lay.rows, e, Option.bind_some]
    cases ho : (isTok (os x.f0) && isVal (os x.f1)) with
    | false => rw [if_neg Bool.false_ne_true, if_pos rfl]
    | true =>
      have h2 : headOK l = false := by
        unfold headOK at h ⊢
        rw [List.all_cons, ho, Bool.true_and] at h; exact h
      rw [if_pos rfl, if_neg (by simp), rows_any k hk l (fun y hy => hl y (List.mem_cons_of_mem _ hy)) h2, Option.bind_some]; rfl
theorem wt_any : ∀ l : List PT, (∀ x ∈ l, (os x.f0).length ≤ 1000 ∧ (os x.f1).length ≤ 1000) → head_Lay.wt l ≤ 2004 * l.length
  | [], _ => Nat.le_refl _
  | x :: l, h => by
    have hx := h x List.mem_cons_self
    have ih := wt_any l (fun y hy => h y (List.mem_cons_of_mem _ hy))
    have z0 := size_os x.f0
    have z1 := size_os x.f1
    unfold head_Lay.wt at ih ⊢
    rw [List.map_cons, List.sum_cons, List.length_cons]
    omega
theorem lay_any (m h p : ByteArray) (q l : List PT) (hm : (os m).length ≤ 1000) (hp : (os p).length ≤ 1000) (hq : q.length ≤ 1000) (hl : Small 1000 l) (k : Nat) (hk : 1200 ≤ k) : (GoodR m h p q l ∧ head_Lay.f k m h p q l = some (layEnd (os m) (os p) q l)) ∨ (¬ GoodR m h p q l ∧ head_Lay.f k m h p q l = some (⟨#[]⟩, 1)) := by
  by_cases g : GoodR m h p q l
  · exact .inl ⟨g, g.lay k hk⟩
  · refine .inr ⟨g, ?_⟩
    obtain ⟨h', ok, ea⟩ := asked_t l hl 1100 (Nat.le_refl _)
    have hl1 : ∀ x ∈ l, (os x.f0).length ≤ 1000 ∧ (os x.f1).length ≤ 1000 := fun x hx => by have := hl.2 x hx; omega
    have hw := wt_any l hl1
    have hn := hl.1
    have z0 := size_os m
    have z1 := size_os p
    have bad : ∀ x, head_Lay.j0 k m p l x true = some (⟨#[]⟩, 1) := fun x => by unfold head_Lay.j0; rw [if_pos rfl]
    unfold head_Lay.f
    rw [text_any q hq k hk, Option.bind_some, asked_up ea (by omega), Option.bind_some]
    dsimp only
    cases hqq : isQ q with
    | false => rw [if_neg (show ¬ (false = true) by decide), if_neg (by decide), bad]
    | true =>
      obtain ⟨hq1, hq2⟩ := isQ_all hqq
      have hlen := encQ_len hq1
      have hz := size_mk (encQ q)
      rw [if_pos rfl, if_pos rfl]
      cases ok with
      | false => rw [if_neg (by decide), bad]
      | true =>
        rw [if_pos rfl]
        by_cases hh : h'.toList = h.toList
        · rw [if_pos hh, meth_p, Option.bind_some]
          rw [toList_os, toList_os] at hh
          obtain rfl := os_inj hh
          cases hmm : isMeth (os m) with
          | false => rw [if_neg (by decide), bad]
          | true =>
            rw [if_pos rfl, path_is, Option.bind_some]
            cases hpp : isPath (os p) with
            | false => rw [if_neg (by decide), bad]
            | true =>
              rw [if_pos rfl]
              by_cases h30 : (l.length : Int) > 30
              · rw [decide_eq_true h30, bad]
              · rw [decide_eq_false h30]
                unfold head_Lay.j0
                rw [if_neg (by decide)]
                dsimp only
                rw [if_pos (by omega)]
                cases hok : headOK l with
                | false => rw [rows_any k (by omega) l hl1 hok, Option.bind_some]; rfl
                | true => exact absurd ⟨hqq, hmm, hpp, hok, by omega, ea⟩ g
        · rw [if_neg hh, bad]
end Go.Proofs.YtpmllmfamjpinaaGreatDoor.L
namespace Go.Proofs.YtpmllmfamjpinaaGreatDoor.L
open Go Go.RowKit Go.Proofs.YtpmllmfamjpinaaGreatDoor.P Go.Proofs.YtpmllmfamjpinaaGreatDoorW.PrintWords Go.Proofs.YtpmllmfamjpinaaGreatDoorW.PrintLast

end Go.Proofs.YtpmllmfamjpinaaGreatDoor.L
namespace Go.Proofs.YtpmllmfamjpinaaGreatDoor.L
variable {α : Type} {hold : α → Bool} {R : α → α → Int}
noncomputable def BestOf (hold : α → Bool) (R : α → α → Int) (l : List α) (f : Nat) : Prop := ∃ x, l[f]? = some x ∧ hold x = true ∧ (∀ y ∈ l, hold y = true → R x y ≤ 0) ∧ ∀ j y, j < f → l[j]? = some y → hold y = true → R x y < 0
noncomputable def IsOf (hold : α → Bool) (R : α → α → Int) (l : List α) : Option Nat → Prop
  | none => ∀ y ∈ l, hold y = false
  | some f => BestOf hold R l f
theorem getE_snoc {p : List α} {y z : α} {j : Nat} (h : (p ++ [y])[j]? = some z) : (j < p.length ∧ p[j]? = some z) ∨ (j = p.length ∧ z = y) := by
  rcases Nat.lt_or_ge j p.length with c | c
  · rw [List.getElem?_append_left c] at h; exact .inl ⟨c, h⟩
  · rw [List.getElem?_append_right c] at h
    rcases Nat.eq_zero_or_pos (j - p.length) with e | e
    · rw [e] at h; simp at h; exact .inr ⟨by omega, h.symm⟩
    · rw [List.getElem?_eq_none (by simp; omega)] at h; cases h
theorem getE_len {l : List α} {j : Nat} {x : α} (h : l[j]? = some x) : j < l.length := (List.getElem?_eq_some_iff.1 h).1
theorem IsOf.nil : IsOf hold R ([] : List α) none := fun _ h => by cases h
theorem IsOf.no {p : List α} {y : α} {o : Option Nat} (h : IsOf hold R p o) (hy : hold y = false) : IsOf hold R (p ++ [y]) o := by
  cases o with
  | none =>
    intro z hz
    rcases List.mem_append.1 hz with hz | hz
    · exact h z hz
    · rw [List.mem_singleton.1 hz]; exact hy
  | some f =>
    obtain ⟨x, h1, h2, h3, h4⟩ := h
    refine ⟨x, by rw [List.getElem?_append_left (getE_len h1)]; exact h1, h2, fun z hz hh => ?_, fun j z hj hz hh => ?_⟩
    · rcases List.mem_append.1 hz with hz | hz
      · exact h3 z hz hh
      · rw [List.mem_singleton.1 hz, hy] at hh; cases hh
    · rcases getE_snoc hz with ⟨_, hz⟩ | ⟨_, hz⟩
      · exact h4 j z hj hz hh
      · rw [hz, hy] at hh; cases hh
end Go.Proofs.YtpmllmfamjpinaaGreatDoor.L
namespace Go.Proofs.YtpmllmfamjpinaaGreatDoor.L
open Go Go.RowKit Go.Proofs.YtpmllmfamjpinaaGreatDoor.P Go.Proofs.YtpmllmfamjpinaaGreatDoorW.PrintWords Go.Proofs.YtpmllmfamjpinaaGreatDoorW.PrintLast
end Go.Proofs.YtpmllmfamjpinaaGreatDoor.L
namespace Go.Proofs.YtpmllmfamjpinaaGreatDoor.L
open Go Go.RowKit Go.Proofs.YtpmllmfamjpinaaGreatDoor.P Go.Proofs.YtpmllmfamjpinaaGreatDoorW.PrintWords Go.Proofs.YtpmllmfamjpinaaGreatDoorW.PrintLast

theorem bt_n {s : ByteArray} {i : Nat} (h : i < (os s).length) : bt s (i : Int) = (((os s)[i]'h).toNat : Int) := by
  rw [bt_os, List.getElem?_eq_getElem h]; rfl
noncomputable def okP (c i n : Nat) : Prop := (97 ≤ c ∧ c ≤ 122) ∨ (48 ≤ c ∧ c ≤ 57) ∨ (c = 45 ∧ i ≠ 0 ∧ i + 1 ≠ n)
instance (c i n : Nat) : Decidable (okP c i n) := by unfold okP; exact inferInstance
theorem label_step (s : ByteArray) (hs : (os s).length ≤ 1000) (i k : Nat) (hi : i < (os s).length) : tollref01_Label.l0 (k + 1) s (i : Int) = if okP ((os s)[i]'hi).toNat i (os s).length then tollref01_Label.l0 k s ((i + 1 : Nat) : Int) else some false := by
  have hz := size_os s
  rw [tollref01_Label.l0, if_pos (by omega), if_pos (by omega), bt_n hi, wrapN (by omega), wrap64_id (x := (s.size : Int) - 1) (by omega) (by omega)]
  generalize tollref01_Label.l0 k s ((i + 1 : Nat) : Int) = X
  generalize ((os s)[i]'hi).toNat = c
  by_cases hok : okP c i (os s).length
  · rw [if_pos hok]
    unfold okP at hok
    repeat' split
    all_goals first | rfl | (exfalso; omega)
  · rw [if_neg hok]
    unfold okP at hok
    repeat' split
    all_goals first | rfl | (exfalso; omega)
theorem label_loop (s : ByteArray) (hs : (os s).length ≤ 1000) : ∀ (n i k : Nat), (os s).length - i = n → i ≤ (os s).length → n + 1 ≤ k → ∃ b, tollref01_Label.l0 k s (i : Int) = some b ∧ (b = true ↔ (1 ≤ (os s).length ∧ (os s).length ≤ 20) ∧ ∀ j (hj : j < (os s).length), i ≤ j → okP ((os s)[j]'hj).toNat j (os s).length) := by
  have hz := size_os s
  intro n
  induction n with
  | zero =>
    intro i k h1 h2 h3
    obtain ⟨k, rfl⟩ : ∃ m, k = m + 1 := ⟨k - 1, by omega⟩
    obtain rfl : i = (os s).length := by omega
    rw [tollref01_Label.l0, if_neg (by omega)]
    by_cases c : 1 ≤ (os s).length
    · rw [if_pos (by omega)]
      exact ⟨_, rfl, by rw [decide_eq_true_iff]; exact ⟨fun h => ⟨⟨c, by omega⟩, fun j hj hij => by omega⟩, fun h => by omega⟩⟩
    · rw [if_neg (by omega)]
      exact ⟨_, rfl, ⟨fun h => (by cases h), fun h => absurd h.1.1 c⟩⟩
  | succ n ih =>
    intro i k h1 h2 h3
    obtain ⟨k, rfl⟩ : ∃ m, k = m + 1 := ⟨k - 1, by omega⟩
    have hi : i < (os s).length := by omega
    rw [label_step s hs i k hi]
    by_cases hok : okP ((os s)[i]'hi).toNat i (os s).length
    · rw [if_pos hok]
      obtain ⟨b, h4, h5⟩ := ih (i + 1) k (by omega) (by omega) (by omega)
      refine ⟨b, h4, h5.trans ⟨fun h => ⟨h.1, fun j hj hij => ?_⟩, fun h => ⟨h.1, fun j hj hij => h.2 j hj (by omega)⟩⟩⟩
      rcases Nat.lt_or_ge i j with c | c
      · exact h.2 j hj (by omega)
      · obtain rfl : j = i := by omega
        exact hok
    · rw [if_neg hok]
      exact ⟨false, rfl, ⟨fun h => (by cases h), fun h => absurd (h.2 i hi (Nat.le_refl _)) hok⟩⟩
theorem labL_iff (l : List UInt8) : labL l = true ↔ (1 ≤ l.length ∧ l.length ≤ 20) ∧ ∀ j (hj : j < l.length), okP (l[j]'hj).toNat j l.length := by
  unfold labL
  simp only [Bool.and_eq_true, decide_eq_true_eq, List.all_eq_true]
  have h45 : ∀ c : UInt8, c.toNat = 45 ↔ c = 45 := fun c => ⟨fun h => UInt8.toNat_inj.1 h, fun h => by rw [h]; rfl⟩
  constructor
  · rintro ⟨h1, h2, h3, h4, h5⟩
    have hl : 0 < l.length := by cases l with | nil => exact absurd rfl h1 | cons => simp
    refine ⟨⟨hl, h2⟩, fun j hj => ?_⟩
    have ho := h3 _ (List.getElem_mem hj)
    unfold octL at ho
    simp only [Bool.or_eq_true, Bool.and_eq_true, decide_eq_true_eq, beq_iff_eq] at ho
    unfold okP
    rcases ho with h | h | h
    · exact .inl h
    · exact .inr (.inl h)
    · refine .inr (.inr ⟨h, fun e => ?_, fun e => ?_⟩)
      · subst e
        rw [List.head?_eq_getElem?, List.getElem?_eq_getElem hj] at h4
        exact h4 (by rw [(h45 _).1 h])
      · rw [List.getLast?_eq_getElem?, show l.length - 1 = j by omega, List.getElem?_eq_getElem hj] at h5
        exact h5 (by rw [(h45 _).1 h])
  · rintro ⟨⟨h1, h2⟩, h3⟩
    refine ⟨fun e => by rw [e] at h1; exact absurd h1 (by decide), h2, fun c hc => ?_, fun e => ?_, fun e => ?_⟩
    · obtain ⟨j, hj, rfl⟩ := List.getElem_of_mem hc
      have := h3 j hj
      unfold okP at this
      unfold octL
      simp only [Bool.or_eq_true, Bool.and_eq_true, decide_eq_true_eq, beq_iff_eq]
      rcases this with h | h | h
      · exact .inl h
      · exact .inr (.inl h)
      · exact .inr (.inr h.1)
    · rw [List.head?_eq_getElem?, List.getElem?_eq_getElem (show 0 < l.length by omega)] at e
      have := h3 0 (by omega)
      rw [Option.some.inj e] at this
      unfold okP at this
      revert this; show (97 ≤ 45 ∧ 45 ≤ 122) ∨ (48 ≤ 45 ∧ 45 ≤ 57) ∨ (45 = 45 ∧ 0 ≠ 0 ∧ _) → False
      omega
    · rw [List.getLast?_eq_getElem?, List.getElem?_eq_getElem (show l.length - 1 < l.length by omega)] at e
      have := h3 (l.length - 1) (by omega)
      rw [Option.some.inj e] at this
      unfold okP at this
      revert this; show (97 ≤ 45 ∧ 45 ≤ 122) ∨ (48 ≤ 45 ∧ 45 ≤ 57) ∨ (45 = 45 ∧ _ ∧ l.length - 1 + 1 ≠ l.length) → False
      omega
theorem label_r (s : ByteArray) (hs : (os s).length ≤ 1000) (k : Nat) (hk : 1100 ≤ k) : tollref01_Label.f k s = some (labL (os s)) := by
  obtain ⟨b, h1, h2⟩ := label_loop s hs (os s).length 0 k (by omega) (by omega) (by omega)
  refine Eq.trans h1 ?_
  congr 1
  rw [Bool.eq_iff_iff, h2, labL_iff]
  exact ⟨fun h => ⟨h.1, fun j hj => h.2 j hj (by omega)⟩, fun h => ⟨h.1, fun j hj _ => h.2 j hj⟩⟩

theorem splitL_snoc (c x : UInt8) : ∀ p : List UInt8, splitL c (p ++ [x]) = if x = c then splitL c p ++ [[]] else (splitL c p).dropLast ++ [(splitL c p).getLastD [] ++ [x]]
  | [] => by
    have e : splitL c [x] = if x = c then [[], []] else [[x]] := rfl
    rw [List.nil_append, e]
    rfl
  | y :: r => by
    obtain ⟨a, t, e⟩ := splitL_cons (c := c) (l := r)
    have ih := splitL_snoc c x r
    rw [List.cons_append, splitL, splitL, ih, e]
    by_cases h : x = c
    · rw [if_pos h, if_pos h]
      by_cases hy : y = c
      · rw [if_pos hy, if_pos hy]; rfl
      · rw [if_neg hy, if_neg hy]; rfl
    · rw [if_neg h, if_neg h]
      by_cases hy : y = c
      · rw [if_pos hy, if_pos hy]
        cases t <;> rfl
      · rw [if_neg hy, if_neg hy]
        cases t <;> rfl
theorem set_last {α : Type} (l : List α) (h : l ≠ []) (v : α) : l.set (l.length - 1) v = l.dropLast ++ [v] := by
  have e : l.dropLast ++ [l.getLast h] = l := List.dropLast_concat_getLast h
  conv => lhs; rw [← e]
  have hl : (l.dropLast ++ [l.getLast h]).length - 1 = l.dropLast.length := by rw [List.length_append, List.length_singleton]; omega
  rw [hl, List.set_append_right _ _ (Nat.le_refl _), Nat.sub_self]; rfl
theorem split_loop (s : ByteArray) (c : UInt8) (hs : (os s).length ≤ 1000) : ∀ (n i k : Nat) (out : List ByteArray), (os s).length - i = n → i ≤ (os s).length → n + 1 ≤ k → out.map os = splitL c ((os s).take i) → (∀ x ∈ out, (os x).length ≤ i) → out.length ≤ i + 1 →
    ∃ L, tollref01_Split.l0 k s (c.toNat : Int) out (i : Int) = some L ∧ L.map os = splitL c (os s) ∧ (∀ x ∈ L, (os x).length ≤ 1000) ∧ L.length ≤ 1001 := by
  have hz := size_os s
  intro n
  induction n with
  | zero =>
    intro i k out h1 h2 h3 h4 h5 h6
    obtain ⟨k, rfl⟩ : ∃ m, k = m + 1 := ⟨k - 1, by omega⟩
    obtain rfl : i = (os s).length := by omega
    rw [List.take_length] at h4
    exact ⟨out, by rw [tollref01_Split.l0, if_neg (by omega)], h4, fun x hx => by have := h5 x hx; omega, by omega⟩
  | succ n ih =>
    intro i k out h1 h2 h3 h4 h5 h6
    obtain ⟨k, rfl⟩ : ∃ m, k = m + 1 := ⟨k - 1, by omega⟩
    have hi : i < (os s).length := by omega
    have hne : out ≠ [] := fun e => by rw [e] at h4; exact splitL_ne c _ h4.symm
    have hlen : 0 < out.length := by cases out with | nil => exact absurd rfl hne | cons => simp
    have et : (os s).take (i + 1) = (os s).take i ++ [(os s)[i]'hi] := by rw [List.take_append_getElem hi]
    rw [tollref01_Split.l0, if_pos (by omega), if_pos (by omega), bt_n hi, wrapN (by omega)]
    by_cases hc : (os s)[i]'hi = c
    · rw [if_pos (by rw [hc]), if_pos (by omega)]
      refine ih (i + 1) k _ (by omega) (by omega) (by omega) ?_ ?_ (by rw [List.length_append, List.length_singleton]; omega)
      · rw [et, splitL_snoc, if_pos hc, List.map_append, h4]; rfl
      · intro x hx
        rcases List.mem_append.1 hx with hx | hx
        · have := h5 x hx; omega
        · rw [List.mem_singleton.1 hx]; show 0 ≤ _; omega
    · have hcn : ¬ (((os s)[i]'hi).toNat : Int) = (c.toNat : Int) := fun h => hc (UInt8.toNat_inj.1 (by omega))
      have hw : wrap64 ((out.length : Int) - 1) = ((out.length - 1 : Nat) : Int) := by rw [wrap64_id (by omega) (by omega)]; omega
      have hlast : out.length - 1 < out.length := by omega
      have hx := h5 _ (List.getElem_mem hlast)
      have hxs := size_os (out[out.length - 1]'hlast)
      have he : os (s.extract (i : Int).toNat ((i + 1 : Nat) : Int).toNat) = [(os s)[i]'hi] := by
        rw [Int.toNat_natCast, Int.toNat_natCast, os_extract, List.drop_eq_getElem_cons hi, show i + 1 - i = 1 by omega]; rfl
      have hes := size_os (s.extract (i : Int).toNat ((i + 1 : Nat) : Int).toNat)
      rw [he] at hes
      rw [if_neg hcn, hw, if_pos (by omega), if_pos (by omega), if_pos (by omega), if_pos (by omega), rdB out _ hlast, if_pos (by rw [hes]; simp; omega), Int.toNat_natCast (out.length - 1)]
      refine ih (i + 1) k _ (by omega) (by omega) (by omega) ?_ ?_ (by rw [List.length_set]; omega)
      · rw [et, splitL_snoc, if_neg hc, ← h4, set_last out hne, List.map_append, List.map_dropLast]
        congr 1
        show [os (_ ++ _)] = _
        rw [os_append, he]
        congr 2
        rw [List.getLastD_eq_getLast?, List.getLast?_map, List.getLast?_eq_getElem?, List.getElem?_eq_getElem hlast]; rfl
      · intro x hx2
        rw [set_last out hne] at hx2
        rcases List.mem_append.1 hx2 with hx2 | hx2
        · have := h5 x (List.dropLast_subset _ hx2); omega
        · rw [List.mem_singleton.1 hx2, os_append, he, List.length_append, List.length_singleton]; omega
theorem split_r (s : ByteArray) (hs : (os s).length ≤ 1000) (k : Nat) (hk : 1100 ≤ k) : ∃ L, tollref01_Split.f k s 46 = some L ∧ L.map os = splitL 46 (os s) ∧ (∀ x ∈ L, (os x).length ≤ 1000) ∧ L.length ≤ 1001 :=
  split_loop s 46 hs (os s).length 0 k [⟨#[]⟩] (by omega) (by omega) (by omega) rfl (fun x hx => by rw [List.mem_singleton.1 hx]; show 0 ≤ 0; omega) (by show 1 ≤ 1; omega)
theorem name_loop (L : List ByteArray) (hL : ∀ x ∈ L, (os x).length ≤ 1000) (hn : L.length ≤ 1001) : ∀ (n i k : Nat), L.length - i = n → i ≤ L.length → n + 1101 ≤ k → tollref01_Name.l0 k L (i : Int) = some (((L.drop i).map os).all labL) := by
  intro n
  induction n with
  | zero =>
    intro i k h1 h2 h3
    obtain ⟨k, rfl⟩ : ∃ m, k = m + 1 := ⟨k - 1, by omega⟩
    rw [tollref01_Name.l0, if_neg (by omega), List.drop_eq_nil_of_le (by omega)]; rfl
  | succ n ih =>
    intro i k h1 h2 h3
    obtain ⟨k, rfl⟩ : ∃ m, k = m + 1 := ⟨k - 1, by omega⟩
    have hi : i < L.length := by omega
    rw [tollref01_Name.l0, if_pos (by omega), if_pos (by omega), rdB L i hi, label_r _ (hL _ (List.getElem_mem hi)) k (by omega), Option.bind_some, wrapN (by omega), ih (i + 1) k (by omega) (by omega) (by omega), List.drop_eq_getElem_cons hi, List.map_cons, List.all_cons]
    cases labL (os (L[i]'hi)) <;> rfl
theorem name_r (s : ByteArray) (hs : (os s).length ≤ 1000) (k : Nat) (hk : 2300 ≤ k) : tollref01_Name.f k s = some (nm (os s)) := by
  have hz := size_os s
  rw [nm_eq]
  unfold tollref01_Name.f nameL
  by_cases c : (os s).length ≤ 60
  · obtain ⟨L, h1, h2, h3, h4⟩ := split_r s hs k (by omega)
    have := name_loop L h3 h4 L.length 0 k (by omega) (by omega) (by omega)
    rw [List.drop_zero, h2] at this
    rw [if_neg (by omega), h1, Option.bind_some, decide_eq_true c, Bool.true_and]
    exact this
  · rw [if_pos (by omega), decide_eq_false c]; rfl

end Go.Proofs.YtpmllmfamjpinaaGreatDoor.L
namespace Go.Proofs.YtpmllmfamjpinaaGreatDoor.L
open Go Go.RowKit Go.Proofs.YtpmllmfamjpinaaGreatDoor.P Go.Proofs.YtpmllmfamjpinaaGreatDoorW.PrintWords Go.Proofs.YtpmllmfamjpinaaGreatDoorW.PrintLast
end Go.Proofs.YtpmllmfamjpinaaGreatDoor.L
namespace Go.Proofs.YtpmllmfamjpinaaGreatDoor.L
open Go Go.RowKit Go.Proofs.YtpmllmfamjpinaaGreatDoor.P Go.Proofs.YtpmllmfamjpinaaGreatDoorW.PrintWords Go.Proofs.YtpmllmfamjpinaaGreatDoorW.PrintLast
theorem fold_r (s : ByteArray) (hs : (os s).length ≤ 1000) (k : Nat) (hk : 1100 ≤ k) : ∃ t, tollref01_Fold.f k s = some t ∧ os t = (os s).map dns_Fold.b := by
  obtain ⟨t, h1, h2⟩ := foldR_loop s hs (os s).length 0 k ⟨#[]⟩ (by omega) (by omega) (by show 0 ≤ 1000 + 0; omega) (by omega)
  exact ⟨t, h1, by rw [h2, List.drop_zero]; rfl⟩
noncomputable def dig (c : UInt8) : Prop := 48 ≤ c.toNat ∧ c.toNat ≤ 57
instance (c : UInt8) : Decidable (dig c) := by unfold dig; exact inferInstance
theorem dig_all : ∀ n : Fin 256, digits.contains (UInt8.ofNat n) = (decide (48 ≤ (n : Nat)) && decide ((n : Nat) ≤ 57)) := by decide +kernel
theorem dig_eq (c : UInt8) : digits.contains c = decide (dig c) := by
  have := dig_all ⟨c.toNat, c.toNat_lt⟩
  rw [show UInt8.ofNat ((⟨c.toNat, c.toNat_lt⟩ : Fin 256) : Nat) = c from UInt8.ofNat_toNat] at this
  rw [this]
  unfold dig
  by_cases h1 : 48 ≤ c.toNat <;> by_cases h2 : c.toNat ≤ 57 <;> simp [h1, h2]
theorem dropWhile_nil {α : Type} (p : α → Bool) : ∀ l : List α, l.dropWhile p = [] ↔ ∀ x ∈ l, p x = true
  | [] => by simp
  | a :: r => by
    rw [List.dropWhile_cons]
    cases h : p a with
    | true => rw [if_pos rfl, dropWhile_nil p r]; simp [h]
    | false => rw [if_neg (by decide)]; simp [h]
theorem trim_nil (l : List UInt8) : Go.Lib.trimS l digits = [] ↔ ∀ c ∈ l, dig c := by
  unfold Go.Lib.trimS Go.Lib.trimLeftS Go.Lib.trimRightS
  rw [dropWhile_nil]
  constructor
  · intro h
    have h2 : l.reverse.dropWhile (digits.contains ·) = [] := by
      cases he : l.reverse.dropWhile (digits.contains ·) with
      | nil => rfl
      | cons a r =>
        have h3 := List.head?_dropWhile_not (digits.contains ·) l.reverse
        rw [he] at h3
        simp only [List.head?_cons] at h3
        have h4 := h a (by rw [he]; simp)
        rw [h4] at h3
        cases h3
    rw [dropWhile_nil] at h2
    intro c hc
    have := h2 c (List.mem_reverse.2 hc)
    rw [dig_eq] at this
    exact of_decide_eq_true this
  · intro h c hc
    have : c ∈ l := List.mem_reverse.1 ((List.dropWhile_suffix _).subset (List.mem_reverse.1 hc))
    rw [dig_eq]
    exact decide_eq_true (h c this)
theorem port_iff (l : List UInt8) : portL l = true ↔ 1 ≤ l.length ∧ l.length ≤ 5 ∧ ∀ c ∈ l, dig c := by
  unfold portL
  rw [Bool.and_eq_true, Bool.and_eq_true, decide_eq_true_eq, decide_eq_true_eq, beq_iff_eq, trim_nil]
noncomputable def PortAt (f : List UInt8) (n : Nat) : Prop := n + 1 ≤ f.length ∧ f[f.length - n - 1]? = some 58 ∧ ∀ c ∈ f.drop (f.length - n), dig c
theorem lastN_at {f : List UInt8} {i : Nat} (h1 : f[i]? = some 58) : ∀ n, i < n → n ≤ f.length → (∀ j, i < j → j < n → f[j]? ≠ some 58) → lastN 58 f n = (i : Int)
  | 0, h, _, _ => by omega
  | n + 1, h, hn, h2 => by
    have h58 : ∀ c : UInt8, ((c.toNat : Int) = 58) ↔ c = 58 := fun c => ⟨fun h => UInt8.toNat_inj.1 (show c.toNat = 58 by omega), fun h => by rw [h]; rfl⟩
    have hx : f[n]? = some (f[n]'(by omega)) := List.getElem?_eq_getElem (by omega)
    rw [lastN, hx, Option.getD_some]
    by_cases c : i = n
    · subst c
      rw [hx] at h1
      rw [if_pos ((h58 _).2 (Option.some.inj h1))]
    · rw [if_neg (fun h3 => h2 n (by omega) (by omega) (by rw [hx, (h58 _).1 h3])), lastN_at h1 n (by omega) (by omega) (fun j hj1 hj2 => h2 j hj1 (by omega))]
theorem lastN_is {f : List UInt8} : ∀ n, n ≤ f.length → 0 ≤ lastN 58 f n → f[(lastN 58 f n).toNat]? = some 58
  | 0, _, h => by rw [lastN] at h; omega
  | n + 1, hn, h => by
    have hx : f[n]? = some (f[n]'(by omega)) := List.getElem?_eq_getElem (by omega)
    rw [lastN, hx, Option.getD_some] at h ⊢
    by_cases c : ((f[n]'(by omega)).toNat : Int) = 58
    · rw [if_pos c, Int.toNat_natCast, hx]
      congr 1
      exact UInt8.toNat_inj.1 (show (f[n]'(by omega)).toNat = 58 by omega)
    · rw [if_neg c] at h ⊢
      exact lastN_is n (by omega) h
theorem noPort_yes {f : List UInt8} {n : Nat} (h1 : 1 ≤ n) (h5 : n ≤ 5) (h : PortAt f n) : noPort f = f.take (f.length - n - 1) := by
  obtain ⟨ha, hb, hc⟩ := h
  have hl : lastN 58 f f.length = ((f.length - n - 1 : Nat) : Int) := lastN_at hb f.length (by omega) (Nat.le_refl _) (fun j hj1 hj2 e => by
    have : (58 : UInt8) ∈ f.drop (f.length - n) := by
      refine List.mem_iff_getElem?.2 ⟨j - (f.length - n), ?_⟩
      rw [List.getElem?_drop, show f.length - n + (j - (f.length - n)) = j by omega]; exact e
    have := hc _ this
    unfold dig at this
    revert this; decide)
  unfold noPort
  rw [hl, Int.toNat_natCast, if_pos]
  rw [Bool.and_eq_true, decide_eq_true_eq, port_iff]
  refine ⟨by omega, by rw [List.length_drop]; omega, by rw [List.length_drop]; omega, ?_⟩
  rw [show f.length - n - 1 + 1 = f.length - n by omega]
  exact hc
theorem noPort_no {f : List UInt8} (h : ∀ n, 1 ≤ n → n ≤ 5 → ¬ PortAt f n) : noPort f = f := by
  have hb := lastN_bound 58 f f.length
  unfold noPort
  rw [if_neg]
  rw [Bool.and_eq_true, decide_eq_true_eq, port_iff]
  rintro ⟨h1, h2, h3, h4⟩
  rw [List.length_drop] at h2 h3
  refine h (f.length - ((lastN 58 f f.length).toNat + 1)) h2 h3 ⟨by omega, ?_, ?_⟩
  · rw [show f.length - (f.length - ((lastN 58 f f.length).toNat + 1)) - 1 = (lastN 58 f f.length).toNat by omega]
    exact lastN_is f.length (Nat.le_refl _) h1
  · rw [show f.length - (f.length - ((lastN 58 f f.length).toNat + 1)) = (lastN 58 f f.length).toNat + 1 by omega]
    exact h4
theorem of_j3 (x : ByteArray) (hx : (os x).length ≤ 100) (k : Nat) (hk : 2400 ≤ k) : ∃ t, tollref02_Of.j3 k x = some (t, nm (noDot (os x))) ∧ os t = if nm (noDot (os x)) = true then noDot (os x) else [] := by
  obtain ⟨k, rfl⟩ : ∃ m, k = m + 2 := ⟨k - 2, by omega⟩
  have hz := size_os x
  have fin : ∀ (y : ByteArray), os y = noDot (os x) → (os y).length ≤ 100 → ∃ t, ((tollref01_Name.f k y).bind fun t => if t = true then some (y, true) else some ((⟨#[]⟩ : ByteArray), false)) = some (t, nm (noDot (os x))) ∧ os t = if nm (noDot (os x)) = true then noDot (os x) else [] := fun y hy hl => by
    rw [name_r y (by omega) k (by omega), Option.bind_some, hy]
    cases nm (noDot (os x)) with
    | true => exact ⟨y, rfl, hy⟩
    | false => exact ⟨_, rfl, rfl⟩
  have hnd : ∀ l : List UInt8, [46].isSuffixOf l = (l.getLast? == some 46) := fun l => by
    rw [Bool.eq_iff_iff, List.isSuffixOf_iff_suffix, beq_iff_eq]
    constructor
    · rintro ⟨r, rfl⟩; rw [List.getLast?_append]; rfl
    · intro h
      obtain ⟨ys, rfl⟩ := List.getLast?_eq_some_iff.1 h
      exact List.suffix_append _ _
  rw [tollref02_Of.j3, toList_os]
  by_cases c : os x = []
  · rw [if_pos c, tollref02_Of.j4, if_neg (by decide)]
    exact fin x (by rw [c]; rfl) hx
  · have hl : 0 < (os x).length := by cases h : os x with | nil => exact absurd h c | cons => simp
    have hb : bt x ((x.size : Int) - 1) = (((os x)[(os x).length - 1]'(by omega)).toNat : Int) := by
      rw [show (x.size : Int) - 1 = (((os x).length - 1 : Nat) : Int) by omega]
      exact bt_n (by omega)
    have hg : (os x).getLast? = some ((os x)[(os x).length - 1]'(by omega)) := by rw [List.getLast?_eq_getElem?, List.getElem?_eq_getElem (by omega)]
    have h46 : ∀ c : UInt8, ((c.toNat : Int) == 46) = (c == 46) := fun c => by
      rw [Bool.eq_iff_iff, beq_iff_eq, beq_iff_eq]
      exact ⟨fun h => UInt8.toNat_inj.1 (show c.toNat = 46 by omega), fun h => by rw [h]; rfl⟩
    rw [if_neg c, wrap64_id (by omega) (by omega), if_pos (by omega), if_pos (by omega), hb, h46, tollref02_Of.j4]
    cases hd : ((os x)[(os x).length - 1]'(by omega) == 46) with
    | true =>
      have e : noDot (os x) = (os x).take ((os x).length - 1) := by
        unfold noDot
        rw [hnd, hg, eq_of_beq hd]; rfl
      rw [if_pos rfl, wrap64_id (by omega) (by omega), if_pos (by omega), if_pos (by omega)]
      refine fin _ ?_ (by rw [os_extract, List.length_take, List.length_drop]; omega)
      rw [e, os_extract, List.drop_zero, Nat.sub_zero]
      congr 1; omega
    | false =>
      have e : noDot (os x) = os x := by
        unfold noDot
        rw [hnd, hg, if_neg]
        intro h
        rw [Option.some.inj (eq_of_beq h)] at hd
        cases hd
      rw [if_neg (by decide)]
      exact fin x e.symm hx
theorem of_l1 (F : ByteArray) (hF : (os F).length ≤ 100) (x4 : Int) (i : Nat) (hi : i < (os F).length) : ∀ (c j k : Nat) (b : Bool), (os F).length - j = c → j ≤ (os F).length →
    tollref02_Of.l1 (c + 1 + k) F x4 (i : Int) b (j : Int) = if b = true ∧ ∀ d ∈ (os F).drop j, dig d then tollref02_Of.j3 k (F.extract 0 i) else tollref02_Of.l0 k F (wrap64 (x4 + 1)) := by
  have hz := size_os F
  intro c
  induction c with
  | zero =>
    intro j k b h1 h2
    obtain rfl : j = (os F).length := by omega
    rw [show 0 + 1 + k = k + 1 by omega, tollref02_Of.l1, if_neg (by omega), List.drop_length]
    cases b with
    | true => rw [if_pos rfl, if_pos (by omega), if_pos (by omega), if_pos ⟨rfl, fun d hd => (by cases hd)⟩, Int.toNat_natCast]
    | false => rw [if_neg (by decide), if_neg (fun h => by cases h.1)]
  | succ c ih =>
    intro j k b h1 h2
    have hj : j < (os F).length := by omega
    have hd : (os F).drop j = (os F)[j]'hj :: (os F).drop (j + 1) := List.drop_eq_getElem_cons hj
    have st := fun b => ih (j + 1) k b (by omega) (by omega)
    rw [show c + 1 + 1 + k = (c + 1 + k) + 1 by omega, tollref02_Of.l1, if_pos (by omega), wrapN (by omega), st, st, hd]
    cases b with
    | false =>
      rw [if_neg (by decide), if_neg (fun h => by cases h.1), if_neg (fun h => by cases h.1)]
    | true =>
      rw [if_pos rfl, if_pos (by omega), bt_n hj]
      by_cases c1 : 48 ≤ ((os F)[j]'hj).toNat
      · rw [if_pos (by omega)]
        by_cases c2 : ((os F)[j]'hj).toNat ≤ 57
        · rw [decide_eq_true (by omega)]
          by_cases c3 : ∀ d ∈ (os F).drop (j + 1), dig d
          · rw [if_pos ⟨rfl, c3⟩, if_pos ⟨rfl, fun d h => by
              rcases List.mem_cons.1 h with rfl | h
              · exact ⟨c1, c2⟩
              · exact c3 d h⟩]
          · rw [if_neg (fun h => c3 h.2), if_neg (fun h => c3 (fun d hd => h.2 d (List.mem_cons_of_mem _ hd)))]
        · rw [decide_eq_false (by omega), if_neg (fun h => by cases h.1), if_neg (fun h => c2 (h.2 _ (List.mem_cons_self ..)).2)]
      · rw [if_neg (by omega), if_neg (fun h => by cases h.1), if_neg (fun h => c1 (h.2 _ (List.mem_cons_self ..)).1)]
theorem of_l0 (F : ByteArray) (hF : (os F).length ≤ 100) : ∀ (c n k : Nat), 6 - n = c → 1 ≤ n → n ≤ 6 → c * 110 + 2500 ≤ k → (∀ m, 1 ≤ m → m < n → ¬ PortAt (os F) m) → ∃ x k', tollref02_Of.l0 k F (n : Int) = tollref02_Of.j3 k' x ∧ os x = noPort (os F) ∧ 2400 ≤ k' := by
  have hz := size_os F
  intro c
  induction c with
  | zero =>
    intro n k h1 h2 h3 h4 h5
    obtain ⟨k, rfl⟩ : ∃ m, k = m + 1 := ⟨k - 1, by omega⟩
    obtain rfl : n = 6 := by omega
    rw [tollref02_Of.l0, if_neg (by omega)]
    exact ⟨F, k, rfl, (noPort_no fun m hm1 hm2 => h5 m hm1 (by omega)).symm, by omega⟩
  | succ c ih =>
    intro n k h1 h2 h3 h4 h5
    rw [Nat.succ_mul] at h4
    have go : ∀ k, c * 110 + 2500 ≤ k → ¬ PortAt (os F) n → ∃ x k', tollref02_Of.l0 k F ((n + 1 : Nat) : Int) = tollref02_Of.j3 k' x ∧ os x = noPort (os F) ∧ 2400 ≤ k' := fun k hk hn => ih (n + 1) k (by omega) (by omega) (by omega) hk (fun m hm1 hm2 => by
      rcases Nat.lt_or_ge m n with d | d
      · exact h5 m hm1 d
      · obtain rfl : m = n := by omega
        exact hn)
    have h58 : ∀ c : UInt8, ((c.toNat : Int) != 58) = (c != 58) := fun c => by
      rw [Bool.eq_iff_iff, bne_iff_ne, bne_iff_ne]
      exact ⟨fun h e => h (by rw [e]; rfl), fun h e => h (UInt8.toNat_inj.1 (show c.toNat = 58 by omega))⟩
    rw [show k = (k - 2) + 2 by omega, tollref02_Of.l0, if_pos (by omega), wrap64_id (x := (F.size : Int) - (n : Int)) (by omega) (by omega), wrap64_id (by omega) (by omega)]
    by_cases c1 : n + 1 ≤ (os F).length
    · have hi : (os F).length - n - 1 < (os F).length := by omega
      rw [if_neg (by omega), if_pos (by omega), if_pos (by omega), show (F.size : Int) - (n : Int) - 1 = (((os F).length - n - 1 : Nat) : Int) by omega, bt_n hi, h58, tollref02_Of.j1]
      by_cases c2 : (os F)[(os F).length - n - 1]'hi = 58
      · rw [c2, if_neg (by decide), wrapN (by omega)]
        have e := of_l1 F hF (n : Int) ((os F).length - n - 1) hi n ((os F).length - n - 1 + 1) (k - 2 - (n + 1)) true (by omega) (by omega)
        rw [show k - 2 = n + 1 + (k - 2 - (n + 1)) by omega, e, show (os F).length - n - 1 + 1 = (os F).length - n by omega]
        by_cases c3 : ∀ d ∈ (os F).drop ((os F).length - n), dig d
        · rw [if_pos ⟨rfl, c3⟩]
          refine ⟨_, _, rfl, ?_, by omega⟩
          rw [noPort_yes h2 (by omega) ⟨c1, by rw [List.getElem?_eq_getElem hi, c2], c3⟩, os_extract, List.drop_zero, Nat.sub_zero]
        · rw [if_neg (fun h => c3 h.2), wrapN (by omega)]
          exact go _ (by omega) (fun h => c3 h.2.2)
      · rw [if_pos (bne_iff_ne.2 c2), wrapN (by omega)]
        exact go _ (by omega) (fun h => c2 (by have := h.2.1; rw [List.getElem?_eq_getElem hi] at this; exact Option.some.inj this))
    · rw [if_pos (by omega), tollref02_Of.j1, if_pos rfl, wrapN (by omega)]
      exact go _ (by omega) (fun h => c1 h.1)
theorem of_r (s : ByteArray) (hs : (os s).length ≤ 100) (k : Nat) (hk : 4000 ≤ k) : ∃ t, tollref02_Of.f k s = some (t, decide ((ofH (os s)).2 = 0)) ∧ os t = (ofH (os s)).1 := by
  obtain ⟨F, h1, h2⟩ := fold_r s (by omega) k (by omega)
  have hF : (os F).length ≤ 100 := by rw [h2, List.length_map]; exact hs
  obtain ⟨x, k', e1, e2, e3⟩ := of_l0 F hF 5 1 k (by omega) (by omega) (by omega) (by omega) (fun m _ _ => by omega)
  have hx : (os x).length ≤ 100 := by
    rw [e2]; unfold noPort; split
    · rw [List.length_take]; omega
    · exact hF
  obtain ⟨t, t1, t2⟩ := of_j3 x hx k' e3
  unfold tollref02_Of.f
  rw [h1, Option.bind_some]
  refine ⟨t, ?_, ?_⟩
  · refine (show tollref02_Of.l0 k F ((1 : Nat) : Int) = _ from e1).trans (t1.trans ?_)
    rw [e2, h2]
    unfold ofH
    split
    · next h => rw [h]; rfl
    · next h => rw [Bool.eq_false_iff.2 h]; rfl
  · rw [t2, e2, h2]
    unfold ofH
    split <;> rfl
end Go.Proofs.YtpmllmfamjpinaaGreatDoor.L
namespace Go.Proofs.YtpmllmfamjpinaaGreatDoor.L
open Go Go.RowKit Go.Proofs.YtpmllmfamjpinaaGreatDoor.P Go.Proofs.YtpmllmfamjpinaaGreatDoorW.PrintWords Go.Proofs.YtpmllmfamjpinaaGreatDoorW.PrintLast
theorem host18 (l : List PT) (hl : Small 31 l) (k : Nat) (hk : 4000 ≤ k) : ∃ h ok, head_asked.f k l = some (h, ok) ∧ tollref18_Host.f k l = some (h, ok) := by
  have hl1 := hl.1
  have h1 := all_loop2 ⟨#[104, 111, 115, 116]⟩ (by decide) l (hl.mono (by decide)) l.length 0 k [] (by omega) (by omega) (by simp) (by omega)
  have h2 := all_r (n := ⟨#[104, 111, 115, 116]⟩) (by decide) (hl.mono (by decide)) k (by omega)
  unfold head_asked.f pairs_All.f tollref18_Host.f
  rw [h2, Option.bind_some, show (0 : Int) = ((0 : Nat) : Int) from rfl, h1, Option.bind_some, List.nil_append, List.drop_zero]
  by_cases h : ((allL ⟨#[104, 111, 115, 116]⟩ l).length : Int) = 1
  · rw [if_pos h, if_pos h, if_pos (by omega), if_pos (by omega)]
    obtain ⟨x, hx⟩ : ∃ x, allL ⟨#[104, 111, 115, 116]⟩ l = [x] := List.length_eq_one_iff.1 (by omega)
    have hm : x ∈ allL ⟨#[104, 111, 115, 116]⟩ l := by rw [hx]; exact List.mem_singleton.2 rfl
    obtain ⟨y, hy, rfl⟩ := List.mem_map.1 hm
    have hy1 := (hl.2 y (List.mem_filter.1 hy).1).2
    obtain ⟨t, e, o⟩ := of_h y.f1 hy1 k (by omega)
    obtain ⟨t', e', o'⟩ := of_r y.f1 hy1 k (by omega)
    obtain rfl : t = t' := os_inj (o.trans o'.symm)
    rw [hx, show rdOf ByteArray.empty [y.f1] ((0 : Nat) : Int) = y.f1 from rfl, e, Option.bind_some, e', Option.bind_some]
    refine ⟨_, _, rfl, ?_⟩
    congr 2
  · rw [if_neg h, if_neg h]; exact ⟨_, _, rfl, rfl⟩
noncomputable def oW (c : UInt8) : List UInt8 := (query_written.o 3 c).getD []
theorem encW_cons (c : UInt8) (r : List UInt8) : encW (c :: r) = oW c ++ encW r := by
  obtain ⟨x, e, _, _, _⟩ := o_q 3 (Nat.le_refl _) c
  have e2 := (encW_p r).2.2.2
  have e3 := (encW_p (c :: r)).2.2.2
  rw [query_written.g, e, Option.bind_some, e2, Option.bind_some] at e3
  unfold oW
  rw [e]; exact (Option.some.inj e3).symm
theorem oW_len (c : UInt8) : (oW c).length ≤ 3 := by
  obtain ⟨x, e, _, _, h⟩ := o_q 3 (Nat.le_refl _) c
  unfold oW; rw [e]; exact h
noncomputable def refO (n : Int) (c : UInt8) : Option (List UInt8) := (tollref04_Plain.f n).bind fun p => if p = true then some [c] else if n = 32 then some [43] else (tollref04_hex.f ((Int.tdiv n 16) % 256)).bind fun a => (tollref04_hex.f (Int.tmod n 16)).bind fun b => some (([37, a, b] : List Int).map fun z => UInt8.ofNat z.toNat)
theorem refO_ : ∀ n : Fin 256, refO ((n : Nat) : Int) (UInt8.ofNat n) = some (oW (UInt8.ofNat n)) := by decide +kernel
theorem refO_p (c : UInt8) : refO (c.toNat : Int) c = some (oW c) := by
  have h := refO_ ⟨c.toNat, c.toNat_lt⟩
  have e : UInt8.ofNat c.toNat = c := UInt8.ofNat_toNat
  simp only [e] at h
  exact h
theorem written_step (s : ByteArray) (hs : (os s).length ≤ 1000) (i k : Nat) (hi : i < (os s).length) (acc : ByteArray) (ha : (os acc).length ≤ 10000) : ∃ x : ByteArray, os x = oW ((os s)[i]'hi) ∧ tollref04_written.l0 (k + 1) s acc (i : Int) = tollref04_written.l0 k s (acc ++ x) ((i + 1 : Nat) : Int) := by
  have hz := size_os s
  have za := size_os acc
  have a1 : (i : Int) < (s.size : Int) := by omega
  have a2 : (0 : Int) ≤ (i : Int) := by omega
  have a3 : (i : Int) ≤ ((i + 1 : Nat) : Int) := by omega
  have a4 : ((i + 1 : Nat) : Int) ≤ (s.size : Int) := by omega
  have a5 : acc.size + 1 ≤ 9223372036854775807 := by omega
  have a6 : ∀ z : ByteArray, (os z).length ≤ 3 → acc.size + z.size ≤ 9223372036854775807 := fun z h => by
    have := size_os z
    omega
  have a7 : i + 1 - i = 0 + 1 := by omega
  have hw : wrap64 ((i : Int) + 1) = ((i + 1 : Nat) : Int) := wrapS (by omega)
  have hd := List.drop_eq_getElem_cons hi
  have hb : bt s (i : Int) = (((os s)[i]'hi).toNat : Int) := bt_c hi
  clear za hz hs ha
  rw [tollref04_written.l0, if_pos a1, if_pos a2, hb, hw]
  clear hb hw a1 a2
  have hr := refO_p ((os s)[i]'hi)
  have ho := oW_len ((os s)[i]'hi)
  generalize oW ((os s)[i]'hi) = y at hr ho ⊢
  unfold refO at hr
  obtain ⟨p, hp, hr⟩ := Option.bind_eq_some_iff.1 hr
  rw [hp, Option.bind_some]
  cases p with
  | true =>
    rw [if_pos rfl] at hr
    have hx : os (s.extract i (i + 1)) = y := by
      rw [← Option.some.inj hr, os_extract, hd, a7, List.take_succ_cons, List.take_zero]
    rw [if_pos rfl, if_pos a3, if_pos a4, Int.toNat_natCast, Int.toNat_natCast, if_pos (a6 _ (by rw [hx]; exact ho))]
    exact ⟨_, hx, rfl⟩
  | false =>
    rw [if_neg (by decide)] at hr
    rw [if_neg (by decide)]
    by_cases h32 : (((os s)[i]'hi).toNat : Int) = 32
    · rw [if_pos h32] at hr
      rw [if_pos h32, if_pos a5]
      exact ⟨_, Option.some.inj hr, rfl⟩
    · rw [if_neg h32] at hr
      obtain ⟨a, ha, hr⟩ := Option.bind_eq_some_iff.1 hr
      obtain ⟨b, hb2, hr⟩ := Option.bind_eq_some_iff.1 hr
      have hx : os (strOfNums [37, a, b]) = y := Option.some.inj hr
      rw [if_neg h32, ha, Option.bind_some, hb2, Option.bind_some, Option.bind_some, if_pos (a6 _ (by rw [hx]; exact ho))]
      exact ⟨_, hx, rfl⟩
theorem written_r (s : ByteArray) (hs : (os s).length ≤ 1000) : ∀ (n i k : Nat) (acc : ByteArray), (os s).length - i ≤ n → i ≤ (os s).length → (os acc).length ≤ 3 * i → n + 1 ≤ k → ∃ t, tollref04_written.l0 k s acc (i : Int) = some t ∧ os t = os acc ++ encW ((os s).drop i) := by
  have hz := size_os s
  intro n
  induction n with
  | zero =>
    intro i k acc h1 h2 h3 h4
    obtain ⟨k, rfl⟩ : ∃ m, k = m + 1 := ⟨k - 1, by omega⟩
    rw [tollref04_written.l0, if_neg (by omega), List.drop_eq_nil_of_le (by omega)]
    exact ⟨acc, rfl, by rw [show encW [] = [] from rfl, List.append_nil]⟩
  | succ n ih =>
    intro i k acc h1 h2 h3 h4
    obtain ⟨k, rfl⟩ : ∃ m, k = m + 1 := ⟨k - 1, by omega⟩
    by_cases hi : i < (os s).length
    · have g1 : (os s).length - (i + 1) ≤ n := by omega
      have g2 : i + 1 ≤ (os s).length := by omega
      have g4 : n + 1 ≤ k := by omega
      have g3 : ∀ z : ByteArray, (os z).length ≤ 3 → (os (acc ++ z)).length ≤ 3 * (i + 1) := fun z h => by
        rw [os_append, List.length_append]; omega
      obtain ⟨x, hx, e⟩ := written_step s hs i k hi acc (by omega)
      obtain ⟨t, e2, o⟩ := ih (i + 1) k (acc ++ x) g1 g2 (g3 x (by rw [hx]; exact oW_len _)) g4
      exact ⟨t, e.trans e2, by rw [o, os_append, hx, List.drop_eq_getElem_cons hi, encW_cons, List.append_assoc]⟩
    · obtain rfl : i = (os s).length := by omega
      rw [tollref04_written.l0, if_neg (by omega), List.drop_length]
      exact ⟨acc, rfl, by rw [show encW [] = [] from rfl, List.append_nil]⟩
theorem written_rf (s : ByteArray) (hs : (os s).length ≤ 1000) (k : Nat) (hk : 1001 ≤ k) : tollref04_written.f k s = some ⟨(encW (os s)).toArray⟩ := by
  obtain ⟨t, e, o⟩ := written_r s hs (os s).length 0 k ⟨#[]⟩ (by omega) (by omega) (by simp) (by omega)
  unfold tollref04_written.f
  rw [show (0 : Int) = ((0 : Nat) : Int) from rfl, e]
  congr 1
  exact os_inj (by rw [o, List.drop_zero]; rfl)
noncomputable def tailQ (l : List PT) : List UInt8 := (l.map fun x => 38 :: enc x).flatten
theorem encQ_cons (x : PT) (l : List PT) : encQ (x :: l) = enc x ++ tailQ l := by
  unfold encQ tailQ
  rw [List.map_cons, Lib.join_cons]
  unfold Lib.joinTail
  rw [List.map_map]; rfl
theorem part_r (x : PT) (h0 : (os x.f0).length ≤ 40) (h1 : (os x.f1).length ≤ 40) : os (((⟨(encW (os x.f0)).toArray⟩ : ByteArray) ++ (⟨#[61]⟩ : ByteArray)) ++ (⟨(encW (os x.f1)).toArray⟩ : ByteArray)) = enc x ∧ (encW (os x.f0)).length ≤ 120 ∧ (encW (os x.f1)).length ≤ 120 := by
  have y0 := encW_p (os x.f0)
  have y1 := encW_p (os x.f1)
  refine ⟨?_, by omega, by omega⟩
  rw [os_append, os_append]
  show (encW (os x.f0) ++ [61]) ++ encW (os x.f1) = enc x
  unfold enc; rw [List.append_assoc]; rfl
theorem text_r (q : List PT) (h : ∀ x ∈ q, (os x.f0).length ≤ 40 ∧ (os x.f1).length ≤ 40) (hq : q.length ≤ 1000) : ∀ (n i k : Nat) (acc : ByteArray), q.length - i ≤ n → 1 ≤ i → i ≤ q.length → (os acc).length ≤ 250 * i → n + 1002 ≤ k → ∃ t, tollref04_Text.l0 k q acc (i : Int) = some t ∧ os t = os acc ++ tailQ (q.drop i) := by
  intro n
  induction n with
  | zero =>
    intro i k acc h1 h2 h3 h4 h5
    obtain ⟨k, rfl⟩ : ∃ m, k = m + 1 := ⟨k - 1, by omega⟩
    rw [tollref04_Text.l0, if_neg (by omega), List.drop_eq_nil_of_le (by omega)]
    exact ⟨acc, rfl, by rw [show tailQ [] = [] from rfl, List.append_nil]⟩
  | succ n ih =>
    intro i k acc h1 h2 h3 h4 h5
    obtain ⟨k, rfl⟩ : ∃ m, k = m + 1 := ⟨k - 1, by omega⟩
    by_cases hi : i < q.length
    · have hx := h _ (List.getElem_mem hi)
      obtain ⟨p1, p2, p3⟩ := part_r (q[i]'hi) hx.1 hx.2
      have za := size_os acc
      have z0 := size_mk (encW (os (q[i]'hi).f0))
      have z1 := size_mk (encW (os (q[i]'hi).f1))
      have z2 := size_os ((⟨(encW (os (q[i]'hi).f0)).toArray⟩ : ByteArray) ++ (⟨#[61]⟩ : ByteArray))
      rw [os_append, List.length_append, ← size_os, z0, show (os (⟨#[61]⟩ : ByteArray)).length = 1 from rfl] at z2
      have z3 := size_os (((⟨(encW (os (q[i]'hi).f0)).toArray⟩ : ByteArray) ++ (⟨#[61]⟩ : ByteArray)) ++ (⟨(encW (os (q[i]'hi).f1)).toArray⟩ : ByteArray))
      rw [p1] at z3
      have hl : (enc (q[i]'hi)).length ≤ 241 := by have := (enc_len (q[i]'hi)).1; omega
      have z4 := size_os (acc ++ (⟨#[38]⟩ : ByteArray))
      rw [os_append, List.length_append, show (os (⟨#[38]⟩ : ByteArray)).length = 1 from rfl] at z4
      rw [tollref04_Text.l0, if_pos (by omega), if_pos (by omega), if_pos (by omega), if_pos (by omega), rd_at q i hi, written_rf _ (by omega) k (by omega), Option.bind_some, if_pos (by omega), written_rf _ (by omega) k (by omega), Option.bind_some, if_pos (by omega), if_pos (by omega), wrapS (by omega)]
      have oa : os ((acc ++ (⟨#[38]⟩ : ByteArray)) ++ (((⟨(encW (os (q[i]'hi).f0)).toArray⟩ : ByteArray) ++ (⟨#[61]⟩ : ByteArray)) ++ (⟨(encW (os (q[i]'hi).f1)).toArray⟩ : ByteArray))) = os acc ++ 38 :: enc (q[i]'hi) := by
        rw [os_append, p1, os_append, List.append_assoc]; rfl
      obtain ⟨t, e, o⟩ := ih (i + 1) k _ (by omega) (by omega) (by omega) (by rw [oa, List.length_append, List.length_cons]; omega) (by omega)
      refine ⟨t, e, ?_⟩
      rw [o, oa, List.drop_eq_getElem_cons hi]
      unfold tailQ
      rw [List.map_cons, List.flatten_cons, List.append_assoc]
    · obtain rfl : i = q.length := by omega
      rw [tollref04_Text.l0, if_neg (by omega), List.drop_length]
      exact ⟨acc, rfl, by rw [show tailQ [] = [] from rfl, List.append_nil]⟩
theorem text_rf (q : List PT) (hq : isQ q = true) (k : Nat) (hk : 2000 ≤ k) : tollref04_Text.f k q = some ⟨(encQ q).toArray⟩ := by
  obtain ⟨h, hn⟩ := isQ_all hq
  obtain ⟨k, rfl⟩ : ∃ m, k = m + 1 := ⟨k - 1, by omega⟩
  unfold tollref04_Text.f
  rw [tollref04_Text.l0]
  cases q with
  | nil => rw [if_neg (by decide)]; rfl
  | cons x l =>
    have hx := h x List.mem_cons_self
    obtain ⟨p1, p2, p3⟩ := part_r x hx.1 hx.2
    have z0 := size_mk (encW (os x.f0))
    have z1 := size_mk (encW (os x.f1))
    have z2 := size_os ((⟨(encW (os x.f0)).toArray⟩ : ByteArray) ++ (⟨#[61]⟩ : ByteArray))
    rw [os_append, List.length_append, ← size_os, z0, show (os (⟨#[61]⟩ : ByteArray)).length = 1 from rfl] at z2
    have z3 := size_os (((⟨(encW (os x.f0)).toArray⟩ : ByteArray) ++ (⟨#[61]⟩ : ByteArray)) ++ (⟨(encW (os x.f1)).toArray⟩ : ByteArray))
    rw [p1] at z3
    have hl : (enc x).length ≤ 241 := by have := (enc_len x).1; omega
    have ze : (⟨#[]⟩ : ByteArray).size = 0 := rfl
    rw [if_pos (by simp), if_neg (by decide), if_pos (by decide), show rd_T51 (x :: l) 0 = x from rfl, written_rf _ (by omega) k (by omega), Option.bind_some, if_pos (by omega), written_rf _ (by omega) k (by omega), Option.bind_some, if_pos (by omega), if_pos (by omega), show wrap64 ((0 : Int) + 1) = ((1 : Nat) : Int) from wrap64_id (by omega) (by omega)]
    have oa : os ((⟨#[]⟩ : ByteArray) ++ (((⟨(encW (os x.f0)).toArray⟩ : ByteArray) ++ (⟨#[61]⟩ : ByteArray)) ++ (⟨(encW (os x.f1)).toArray⟩ : ByteArray))) = enc x := by
      rw [os_append, p1]; rfl
    obtain ⟨t, e, o⟩ := text_r (x :: l) h (by omega) l.length 1 k _ (by simp) (by omega) (by simp) (by rw [oa]; omega) (by simp at hn; omega)
    rw [e]
    congr 1
    refine os_inj ?_
    rw [o, oa, List.drop_succ_cons, List.drop_zero, os_mk, encQ_cons]
theorem rows_ref (m h p : ByteArray) (q l : List PT) (hl : Small 31 l) : ∀ (n i k : Nat) (acc : ByteArray), l.length - i ≤ n → i ≤ l.length → (os acc).length ≤ 100000 + 300 * i → n + 4000 ≤ k →
    tollref18_Lay.l0 k acc (i : Int) m h p q l = some (if headOK (l.drop i) = true then (if (os acc ++ ((l.drop i).map fun x => rowL x ++ [13, 10]).flatten ++ [13, 10]).length > 1000 then (⟨#[]⟩, 5) else (⟨(os acc ++ ((l.drop i).map fun x => rowL x ++ [13, 10]).flatten ++ [13, 10]).toArray⟩, 0)) else (⟨#[]⟩, 1)) := by
  have hl1 := hl.1
  have hend : ∀ (k : Nat) (acc : ByteArray), (os acc).length ≤ 200000 → tollref18_Lay.l0 (k + 1) acc ((l.length : Nat) : Int) m h p q l = some (if headOK (l.drop l.length) = true then (if (os acc ++ ((l.drop l.length).map fun x => rowL x ++ [13, 10]).flatten ++ [13, 10]).length > 1000 then (⟨#[]⟩, 5) else (⟨(os acc ++ ((l.drop l.length).map fun x => rowL x ++ [13, 10]).flatten ++ [13, 10]).toArray⟩, 0)) else (⟨#[]⟩, 1)) := fun k acc ha => by
    have za := size_os acc
    have zz := size_os (acc ++ (⟨#[13, 10]⟩ : ByteArray))
    rw [os_append, List.length_append, show (os (⟨#[13, 10]⟩ : ByteArray)).length = 2 from rfl] at zz
    rw [tollref18_Lay.l0, if_neg (by omega), if_pos (by omega), List.drop_length, if_pos (show headOK ([] : List PT) = true from rfl), List.map_nil, List.flatten_nil, List.append_nil]
    have e : acc ++ (⟨#[13, 10]⟩ : ByteArray) = ⟨(os acc ++ [13, 10]).toArray⟩ := os_inj (by rw [os_append])
    by_cases c : (os acc ++ [13, 10]).length > 1000
    · rw [if_pos (by rw [List.length_append, show ([13, 10] : List UInt8).length = 2 from rfl] at c; omega), if_pos c]
    · rw [if_neg (by rw [List.length_append, show ([13, 10] : List UInt8).length = 2 from rfl] at c; omega), if_neg c, e]
  intro n
  induction n with
  | zero =>
    intro i k acc h1 h2 h3 h4
    obtain ⟨k, rfl⟩ : ∃ m, k = m + 1 := ⟨k - 1, by omega⟩
    obtain rfl : i = l.length := by omega
    exact hend k acc (by omega)
  | succ n ih =>
    intro i k acc h1 h2 h3 h4
    obtain ⟨k, rfl⟩ : ∃ m, k = m + 1 := ⟨k - 1, by omega⟩
    by_cases hi : i < l.length
    · have hx := hl.2 _ (List.getElem_mem hi)
      have z0 := size_os (l[i]'hi).f0
      have z1 := size_os (l[i]'hi).f1
      have za := size_os acc
      rw [tollref18_Lay.l0, if_pos (by omega), if_pos (by omega), rd_at l i hi, tok_r _ (by omega) k (by omega), Option.bind_some, List.drop_eq_getElem_cons hi]
      have hc : headOK (l[i]'hi :: l.drop (i + 1)) = ((isTok (os (l[i]'hi).f0) && isVal (os (l[i]'hi).f1)) && headOK (l.drop (i + 1))) := by unfold headOK; rw [List.all_cons]
      rw [hc]
      cases ht : isTok (os (l[i]'hi).f0) with
      | false => rw [if_neg (by decide), Bool.false_and, Bool.false_and, if_neg (by decide)]
      | true =>
        rw [if_pos rfl, val_r _ (by omega) k (by omega), Option.bind_some]
        cases hv : isVal (os (l[i]'hi).f1) with
        | false => rw [if_neg (by decide), Bool.and_false, Bool.false_and, if_neg (by decide)]
        | true =>
          have z2 := size_os ((l[i]'hi).f0 ++ (⟨#[58, 32]⟩ : ByteArray))
          rw [os_append, List.length_append, show (os (⟨#[58, 32]⟩ : ByteArray)).length = 2 from rfl] at z2
          have z3 := size_os (((l[i]'hi).f0 ++ (⟨#[58, 32]⟩ : ByteArray)) ++ (l[i]'hi).f1)
          rw [os_append, List.length_append, ← size_os, z2] at z3
          have o4 : os ((((l[i]'hi).f0 ++ (⟨#[58, 32]⟩ : ByteArray)) ++ (l[i]'hi).f1) ++ (⟨#[13, 10]⟩ : ByteArray)) = rowL (l[i]'hi) ++ [13, 10] := by
            rw [os_append, os_append, os_append]
            show (os (l[i]'hi).f0 ++ [58, 32]) ++ os (l[i]'hi).f1 ++ [13, 10] = rowL (l[i]'hi) ++ [13, 10]
            unfold rowL
            simp [List.append_assoc]
          have z4 := size_os ((((l[i]'hi).f0 ++ (⟨#[58, 32]⟩ : ByteArray)) ++ (l[i]'hi).f1) ++ (⟨#[13, 10]⟩ : ByteArray))
          rw [os_append, List.length_append, ← size_os, z3, show (os (⟨#[13, 10]⟩ : ByteArray)).length = 2 from rfl] at z4
          rw [if_pos rfl, if_pos (by omega), if_pos (by omega), if_pos (by omega), if_pos (by omega), wrapS (by omega)]
          have o5 : os (acc ++ ((((l[i]'hi).f0 ++ (⟨#[58, 32]⟩ : ByteArray)) ++ (l[i]'hi).f1) ++ (⟨#[13, 10]⟩ : ByteArray))) = os acc ++ (rowL (l[i]'hi) ++ [13, 10]) := by rw [os_append, o4]
          have l4 : (rowL (l[i]'hi) ++ [13, 10]).length = (os (l[i]'hi).f0).length + (os (l[i]'hi).f1).length + 4 := by rw [← o4, ← size_os, z4]; omega
          rw [ih (i + 1) k _ (by omega) (by omega) (by rw [o5, List.length_append, l4]; omega) (by omega), o5, Bool.true_and, Bool.true_and, List.map_cons, List.flatten_cons]
          simp only [List.append_assoc]
    · obtain rfl : i = l.length := by omega
      exact hend k acc (by omega)
theorem lay_ref (m h p : ByteArray) (q l : List PT) (hm : (os m).length ≤ 100) (hp : (os p).length ≤ 100) (hq : q.length ≤ 1000) (hl : Small 31 l) (k : Nat) (hk : 6000 ≤ k) : (GoodR m h p q l → tollref18_Lay.f k m h p q l = some (layEnd (os m) (os p) q l)) ∧ (¬ GoodR m h p q l → tollref18_Lay.f k m h p q l = some (⟨#[]⟩, 1)) := by
  obtain ⟨k, rfl⟩ : ∃ m, k = m + 2 := ⟨k - 2, by omega⟩
  obtain ⟨h', ok, ea, er⟩ := host18 l hl (k + 2) (by omega)
  obtain ⟨h2, ok2, ea2⟩ := asked_t l (hl.mono (by decide)) 1100 (Nat.le_refl _)
  obtain ⟨rfl, rfl⟩ : h2 = h' ∧ ok2 = ok := by
    have := (asked_up ea2 (show 1100 ≤ k + 2 by omega)).symm.trans ea
    exact ⟨congrArg Prod.fst (Option.some.inj this), congrArg Prod.snd (Option.some.inj this)⟩
  have z0 := size_os m
  have z1 := size_os p
  have hl1 := hl.1
  have bad : tollref18_Lay.j0 (k + 2) true m h p q l = some (⟨#[]⟩, 1) := by rw [tollref18_Lay.j0, if_pos rfl]
  have key : tollref18_Lay.f (k + 2) m h p q l = if ok2 = true ∧ h2 = h ∧ isMeth (os m) = true ∧ isPath (os p) = true ∧ isQ q = true ∧ l.length ≤ 30 then tollref18_Lay.j0 (k + 2) false m h p q l else some (⟨#[]⟩, 1) := by
    unfold tollref18_Lay.f
    rw [er, Option.bind_some]
    dsimp only
    cases ok2 with
    | false => rw [if_neg (by decide), if_neg (fun c => by cases c.1), bad]
    | true =>
      rw [if_pos rfl]
      by_cases hh : h2 = h
      · rw [if_pos (by rw [hh]), meth_r m (by omega) _ (by omega), Option.bind_some]
        cases hmm : isMeth (os m) with
        | false => rw [if_neg (by decide), if_neg (fun c => by cases c.2.2.1), bad]
        | true =>
          rw [if_pos rfl, ref_is p _ (by omega) (by omega), Option.bind_some]
          cases hpp : isPath (os p) with
          | false => rw [if_neg (by decide), if_neg (fun c => by cases c.2.2.2.1), bad]
          | true =>
            rw [if_pos rfl, q_r q hq _ (by omega), Option.bind_some]
            cases hqq : isQ q with
            | false => rw [if_neg (by decide), if_neg (fun c => by cases c.2.2.2.2.1), bad]
            | true =>
              rw [if_pos rfl]
              by_cases h30 : (l.length : Int) > 30
              · rw [decide_eq_true h30, if_neg (fun c => by have := c.2.2.2.2.2; omega), bad]
              · rw [decide_eq_false h30, if_pos ⟨rfl, hh, rfl, rfl, rfl, by omega⟩]
      · rw [if_neg (fun c => hh (by rw [toList_os, toList_os] at c; exact os_inj c)), if_neg (fun c => hh c.2.1), bad]
  have goes : isMeth (os m) = true → isPath (os p) = true → isQ q = true → tollref18_Lay.j0 (k + 2) false m h p q l = some (if headOK l = true then layEnd (os m) (os p) q l else (⟨#[]⟩, 1)) := by
    intro hmm hpp hqq
    obtain ⟨hq1, hq2⟩ := isQ_all hqq
    have hlen := encQ_len hq1
    have zq := size_mk (encQ q)
    have y1 := size_os (m ++ (⟨#[32]⟩ : ByteArray))
    rw [os_append, List.length_append, show (os (⟨#[32]⟩ : ByteArray)).length = 1 from rfl] at y1
    have y2 := size_os ((m ++ (⟨#[32]⟩ : ByteArray)) ++ p)
    rw [os_append, List.length_append, ← size_os, y1] at y2
    have last : ∀ x : ByteArray, os x = os m ++ 32 :: (os p ++ askL q) → tollref18_Lay.j1 (k + 1) x m h p q l = some (if headOK l = true then layEnd (os m) (os p) q l else (⟨#[]⟩, 1)) := by
      intro x hx
      have zx := size_os x
      have hal : (askL q).length ≤ (encQ q).length + 1 := by unfold askL; split <;> simp
      rw [hx, List.length_append, List.length_cons, List.length_append] at zx
      have o6 : os (x ++ (⟨#[32, 72, 84, 84, 80, 47, 49, 46, 49, 13, 10]⟩ : ByteArray)) = lineL (os m) (os p) q ++ [13, 10] := by
        rw [os_append, hx]; unfold lineL; simp [List.append_assoc]
      have l6 : (lineL (os m) (os p) q ++ [13, 10]).length = x.size + 11 := by rw [← o6, os_append, List.length_append, ← size_os]; rfl
      rw [tollref18_Lay.j1, if_pos (by omega), show (0 : Int) = ((0 : Nat) : Int) from rfl, rows_ref m h p q l hl l.length 0 k _ (by omega) (by omega) (by rw [o6, l6]; omega) (by omega), List.drop_zero, o6]
      have e : lineL (os m) (os p) q ++ [13, 10] ++ (l.map fun x => rowL x ++ [13, 10]).flatten ++ [13, 10] = headL (os m) (os p) q l := by
        have := join_end [13, 10] (l.map rowL) (lineL (os m) (os p) q)
        rw [List.map_map] at this
        unfold headL bodyL linesL
        rw [show ([13, 10, 13, 10] : List UInt8) = [13, 10] ++ [13, 10] from rfl, ← List.append_assoc, this]; rfl
      rw [e]; rfl
    rw [tollref18_Lay.j0, if_neg (by decide), if_pos (by omega), if_pos (by omega)]
    cases q with
    | nil =>
      rw [if_neg (by decide)]
      exact last _ (by rw [os_append, os_append, show askL [] = [] from rfl, List.append_nil, List.append_assoc]; rfl)
    | cons y q =>
      rw [if_pos (by simp), text_rf _ hqq _ (by omega), Option.bind_some]
      have y3 := size_os ((⟨#[63]⟩ : ByteArray) ++ (⟨(encQ (y :: q)).toArray⟩ : ByteArray))
      rw [os_append, List.length_append, ← size_os (⟨(encQ (y :: q)).toArray⟩ : ByteArray), zq, show (os (⟨#[63]⟩ : ByteArray)).length = 1 from rfl] at y3
      rw [if_pos (by omega), if_pos (by omega)]
      refine last _ ?_
      rw [os_append, os_append, os_append, os_append]
      unfold askL
      rw [if_neg encQ_ne]
      show (os m ++ [32]) ++ os p ++ ([63] ++ encQ (y :: q)) = _
      simp [List.append_assoc]
  rw [key]
  constructor
  · intro g
    have hok : (h, true) = (h2, ok2) := Option.some.inj (g.host.symm.trans ea2)
    rw [if_pos ⟨(congrArg Prod.snd hok).symm, (congrArg Prod.fst hok).symm, g.mm, g.pp, g.qq, g.n30⟩, goes g.mm g.pp g.qq, if_pos g.ll]
  · intro g
    by_cases c : ok2 = true ∧ h2 = h ∧ isMeth (os m) = true ∧ isPath (os p) = true ∧ isQ q = true ∧ l.length ≤ 30
    · obtain ⟨rfl, rfl, hmm, hpp, hqq, h30⟩ := c
      rw [if_pos ⟨rfl, rfl, hmm, hpp, hqq, h30⟩, goes hmm hpp hqq]
      cases hok : headOK l with
      | false => rw [if_neg (by decide)]
      | true => exact absurd ⟨hqq, hmm, hpp, hok, h30, ea2⟩ g
    · rw [if_neg c]
end Go.Proofs.YtpmllmfamjpinaaGreatDoor.L
