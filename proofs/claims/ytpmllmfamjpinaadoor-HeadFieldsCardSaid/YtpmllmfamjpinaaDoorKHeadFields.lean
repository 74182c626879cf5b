import Derived.Test.YtpmllmfamjpinaaDoorPx0
import Derived.Test.YtpmllmfamjpinaaDoorPx10
import Derived.Test.YtpmllmfamjpinaaDoorPx12
import Derived.Test.YtpmllmfamjpinaaDoorPx14
import Derived.Test.YtpmllmfamjpinaaDoorPx2
import Derived.Test.YtpmllmfamjpinaaDoorPx3
import Derived.Test.YtpmllmfamjpinaaDoorPx4
import Derived.Test.YtpmllmfamjpinaaDoorPx5
import Derived.Test.YtpmllmfamjpinaaDoorPx6
import Derived.Test.YtpmllmfamjpinaaDoorPx7
import Derived.Test.YtpmllmfamjpinaaDoorWWords
import Derived.Laws.Strings
import Derived.Laws.Runes
import Derived.Lib.IndexLaws
namespace Go.Proofs.YtpmllmfamjpinaaDoor.L
open Go Go.RowKit Go.Proofs.YtpmllmfamjpinaaDoorW.PrintWords

abbrev os (s : ByteArray) : List UInt8 := s.data.toList

theorem toList_os (s : ByteArray) : s.toList = os s := ByteArray.toList_eq s
theorem size_os (s : ByteArray) : s.size = (os s).length := (Array.length_toList (xs := s.data)).symm
theorem os_inj {s t : ByteArray} (h : os s = os t) : s = t := by
  cases s with | mk a => cases t with | mk b =>
  have : a = b := Array.toList_inj.1 h
  rw [this]
theorem os_mk (l : List UInt8) : os (⟨l.toArray⟩ : ByteArray) = l := rfl
theorem os_append (s t : ByteArray) : os (s ++ t) = os s ++ os t := by
  simp [os, ByteArray.data_append]
theorem os_extract (s : ByteArray) (a b : Nat) : os (s.extract a b) = ((os s).drop a).take (b - a) := by
  simp [os, ByteArray.data_extract, Array.toList_extract, List.extract]
theorem bt_os (s : ByteArray) (i : Nat) : bt s (i : Int) = (((os s)[i]?.getD 0).toNat : Int) := by
  unfold bt
  have hs := size_os s
  by_cases h : ((i : Nat) : Int).toNat < s.size
  · rw [dif_pos h]
    have h' : i < (os s).length := by simp at h; omega
    rw [List.getElem?_eq_getElem h']
    rfl
  · rw [dif_neg h]
    have h' : (os s).length ≤ i := by simp at h; omega
    rw [List.getElem?_eq_none h']
    rfl
theorem wrap64_id {x : Int} (h1 : -9223372036854775808 ≤ x) (h2 : x ≤ 9223372036854775807) : wrap64 x = x := by unfold wrap64; omega
end Go.Proofs.YtpmllmfamjpinaaDoor.L
namespace Go.Proofs.YtpmllmfamjpinaaDoor.L
open Go Go.RowKit Go.Proofs.YtpmllmfamjpinaaDoor.P Go.Proofs.YtpmllmfamjpinaaDoorW.PrintWords Go.Proofs.YtpmllmfamjpinaaDoorW.PrintLast

noncomputable def pok (c : UInt8) : Bool := decide (33 ≤ c.toNat) && (decide (c.toNat ≤ 126) && (c.toNat != 63 && c.toNat != 35))
noncomputable def isPath (l : List UInt8) : Bool := l.all pok && (l.head? == some 47 && decide (l.length ≤ 60))
theorem isPath_len {l : List UInt8} (h : isPath l = true) : 1 ≤ l.length ∧ l.length ≤ 60 := by
  unfold isPath at h
  simp only [Bool.and_eq_true, decide_eq_true_eq, beq_iff_eq] at h
  refine ⟨?_, h.2.2⟩
  cases l with
  | nil => simp at h
  | cons a r => simp
theorem hasPrefix (s p : ByteArray) : strings_HasPrefix.f s p = some ((os p).isPrefixOf (os s)) := by
  have hs := size_os s
  have hp := size_os p
  unfold strings_HasPrefix.f stringslite_HasPrefix.f
  by_cases h : (s.size : Int) ≥ (p.size : Int)
  · rw [if_pos h, if_pos (by omega), if_pos (by omega), Option.bind_some]
    congr 1
    rw [toList_os, toList_os, os_extract, List.drop_zero, Nat.sub_zero, hp, Bool.eq_iff_iff, beq_iff_eq, List.isPrefixOf_iff_prefix]
    constructor
    · intro h
      rw [← h]
      exact List.take_prefix _ _
    · intro h
      exact (List.prefix_iff_eq_take.1 h).symm
  · rw [if_neg h, Option.bind_some]
    congr 1
    symm
    rw [Bool.eq_false_iff]
    intro hc
    have := (List.isPrefixOf_iff_prefix.1 hc).length_le
    omega
theorem path_is (s : ByteArray) : path_Is.f s = some (isPath (os s)) := by
  have hs := size_os s
  unfold path_Is.f isPath
  by_cases h : (os s).all path_Is.ok = true
  · rw [if_pos h, hasPrefix, Option.bind_some]
    have h2 : (os s).all pok = true := h
    rw [h2]
    have h3 : (os (⟨#[47]⟩ : ByteArray)).isPrefixOf (os s) = ((os s).head? == some 47) := by
      show [47].isPrefixOf (os s) = _
      cases os s with
      | nil => rfl
      | cons a r =>
        show (47 == a && true) = (some a == some 47)
        by_cases ha : a = 47
        · rw [ha]; rfl
        · rw [Bool.and_true, beq_eq_false_iff_ne.2 (Ne.symm ha), beq_eq_false_iff_ne.2 (fun h => ha (Option.some.inj h))]
    rw [h3]
    cases (os s).head? == some 47
    · rfl
    · rw [if_pos rfl, Bool.true_and, Bool.true_and]
      congr 1
      exact decide_eq_decide.2 (by omega)
  · rw [if_neg h]
    have h2 : (os s).all pok = false := by rw [Bool.eq_false_iff]; exact h
    rw [h2]
    rfl

end Go.Proofs.YtpmllmfamjpinaaDoor.L
namespace Go.Proofs.YtpmllmfamjpinaaDoor.L
open Go Go.RowKit Go.Proofs.YtpmllmfamjpinaaDoor.P Go.Proofs.YtpmllmfamjpinaaDoorW.PrintWords Go.Proofs.YtpmllmfamjpinaaDoorW.PrintLast

abbrev PT := S35
noncomputable def nb (s : ByteArray) : List UInt8 := (os s).map dns_Fold.b
noncomputable def eqN (a b : ByteArray) : Bool := nb a == nb b
noncomputable def Small (m : Nat) (l : List PT) : Prop := l.length ≤ m ∧ ∀ x ∈ l, (os x.f0).length ≤ 100 ∧ (os x.f1).length ≤ 100
theorem Small.mono {m m' : Nat} {l : List PT} (h : Small m l) (hm : m ≤ m') : Small m' l := ⟨Nat.le_trans h.1 hm, h.2⟩
theorem Small.filter {m : Nat} {l : List PT} (h : Small m l) (p : PT → Bool) : Small m (l.filter p) := ⟨Nat.le_trans (List.length_filter_le _ _) h.1, fun x hx => h.2 x (List.mem_filter.1 hx).1⟩

noncomputable def few (s : ByteArray) : ByteArray := if s.size > 100 then s.extract 0 100 else s
theorem few_eq (s : ByteArray) : tolllaw01_Few.f s = some (few s) := by
  unfold tolllaw01_Few.f few
  by_cases h : s.size > 100
  · rw [if_pos (by omega), if_pos (by decide), if_pos (by omega), if_pos h]
  · rw [if_neg (by omega), if_neg h]
theorem few_len (s : ByteArray) : (os (few s)).length ≤ 100 := by
  have hs := size_os s
  unfold few
  by_cases h : s.size > 100
  · rw [if_pos h, os_extract, List.length_take]; omega
  · rw [if_neg h]; omega
noncomputable def few1 (x : PT) : PT := ⟨few x.f0, few x.f1⟩
noncomputable def fewL (l : List PT) : List PT := (l.take 31).map few1
theorem rd_at (l : List PT) (i : Nat) (h : i < l.length) : rd_T35 l (i : Int) = l[i] := by
  unfold rd_T35
  rw [Int.toNat_natCast, getD_at _ _ h]
theorem fewL_loop (l : List PT) : ∀ (n i k : Nat) (acc : List PT), 31 - i ≤ n → i ≤ 31 → i ≤ l.length → acc.length ≤ 1000 + i → 2 * n + 2 ≤ k → tolllaw05_Few.l0 k l acc (i : Int) = some (acc ++ ((l.drop i).take (31 - i)).map few1) := by
  intro n
  induction n with
  | zero =>
    intro i k acc h1 h2 h3 h4 h5
    obtain ⟨k, rfl⟩ : ∃ m, k = m + 2 := ⟨k - 2, by omega⟩
    obtain rfl : i = 31 := by omega
    have e : tolllaw05_Few.j1 (k + 1) l acc ((31 : Nat) : Int) false = some acc := by rw [tolllaw05_Few.j1]; rfl
    have e' : tolllaw05_Few.j1 (k + 1) l acc 31 false = some acc := e
    rw [tolllaw05_Few.l0]
    split <;> simp [e']
  | succ n ih =>
    intro i k acc h1 h2 h3 h4 h5
    obtain ⟨k, rfl⟩ : ∃ m, k = m + 2 := ⟨k - 2, by omega⟩
    have e : tolllaw05_Few.j1 (k + 1) l acc (i : Int) false = some acc := by rw [tolllaw05_Few.j1]; rfl
    rw [tolllaw05_Few.l0]
    by_cases hl : i < l.length
    · rw [if_pos (by omega)]
      by_cases h31 : i < 31
      · rw [show decide ((i : Int) < 31) = true from decide_eq_true (by omega), tolllaw05_Few.j1, if_pos rfl, if_pos (by omega), if_pos (by omega), rd_at l i hl, few_eq, Option.bind_some, few_eq, Option.bind_some, if_pos (by omega), wrap64_id (by omega) (by omega), show (i : Int) + 1 = ((i + 1 : Nat) : Int) by omega, ih (i + 1) k _ (by omega) (by omega) (by omega) (by rw [List.length_append, List.length_singleton]; omega) (by omega)]
        rw [List.append_assoc, show 31 - i = (31 - (i + 1)) + 1 by omega, List.drop_eq_getElem_cons hl, List.take_succ_cons, List.map_cons]
        rfl
      · obtain rfl : i = 31 := by omega
        rw [show decide (((31 : Nat) : Int) < 31) = false from rfl, e]; rw [Nat.sub_self, List.take_zero]; simp
    · obtain rfl : i = l.length := by omega
      rw [if_neg (by omega), e]; simp
theorem fewL_eq (l : List PT) (k : Nat) (hk : 70 ≤ k) : tolllaw05_Few.f k l = some (fewL l) := by
  unfold tolllaw05_Few.f fewL
  have := fewL_loop l 31 0 k [] (by omega) (by omega) (by omega) (by simp) (by omega)
  simpa using this
theorem fewL_small (l : List PT) : Small 31 (fewL l) := by
  refine ⟨by unfold fewL; rw [List.length_map, List.length_take]; omega, fun x hx => ?_⟩
  obtain ⟨y, _, rfl⟩ := List.mem_map.1 hx
  exact ⟨few_len _, few_len _⟩
theorem fold_p (s : ByteArray) (h : (os s).length ≤ 1000) : dns_Fold.f s = some ⟨(nb s).toArray⟩ := by
  have hs := size_os s
  unfold dns_Fold.f
  rw [if_pos (by omega)]
  rfl
theorem same_p (a b : ByteArray) (ha : (os a).length ≤ 1000) (hb : (os b).length ≤ 1000) : pairs_Same.f a b = some (eqN a b) := by
  unfold pairs_Same.f eqN
  rw [fold_p a ha, Option.bind_some, fold_p b hb, Option.bind_some, toList_os, toList_os]
theorem nums1 (c : Int) : os (strOfNums [c]) = [UInt8.ofNat c.toNat] := rfl
theorem foldR_loop (s : ByteArray) (hs : (os s).length ≤ 1000) : ∀ (n i k : Nat) (acc : ByteArray), (os s).length - i ≤ n → i ≤ (os s).length → (os acc).length ≤ 1000 + i → n + 1 ≤ k → ∃ t, tollref01_Fold.l0 k s acc (i : Int) = some t ∧ os t = os acc ++ ((os s).drop i).map dns_Fold.b := by
  have hsz := size_os s
  intro n
  induction n with
  | zero =>
    intro i k acc h1 h2 h3 h4
    obtain ⟨k, rfl⟩ : ∃ m, k = m + 1 := ⟨k - 1, by omega⟩
    rw [tollref01_Fold.l0, if_neg (by omega)]
    refine ⟨_, rfl, ?_⟩
    rw [List.drop_eq_nil_of_le (by omega)]; simp
  | succ n ih =>
    intro i k acc h1 h2 h3 h4
    obtain ⟨k, rfl⟩ : ∃ m, k = m + 1 := ⟨k - 1, by omega⟩
    by_cases hi : i < (os s).length
    · have hacc := size_os acc
      have hb : bt s (i : Int) = (((os s)[i]'hi).toNat : Int) := by rw [bt_os, List.getElem?_eq_getElem hi]; rfl
      have hlt := ((os s)[i]'hi).toNat_lt
      have step : ∀ c : Int, UInt8.ofNat c.toNat = dns_Fold.b ((os s)[i]'hi) → ∃ t, ((some (([c] : List Int) : List Int)).bind fun y => (if acc.size + (strOfNums y).size ≤ 9223372036854775807 then (tollref01_Fold.l0 k s (acc ++ (strOfNums y)) (wrap64 ((i : Int) + 1))) else (none))) = some t ∧ os t = os acc ++ ((os s).drop i).map dns_Fold.b := by
        intro c hc
        rw [Option.bind_some, if_pos (by rw [strOfNums_size]; simp; omega), wrap64_id (by omega) (by omega), show (i : Int) + 1 = ((i + 1 : Nat) : Int) by omega]
        obtain ⟨t, e, ht⟩ := ih (i + 1) k (acc ++ strOfNums [c]) (by omega) (by omega) (by rw [os_append, nums1, List.length_append, List.length_singleton]; omega) (by omega)
        refine ⟨t, e, ?_⟩
        rw [ht, os_append, nums1, List.drop_eq_getElem_cons hi, List.map_cons, hc, List.append_assoc]
        rfl
      rw [tollref01_Fold.l0, if_pos (by omega), if_pos (by omega)]
      rw [hb]
      by_cases c1 : (65 : Int) ≤ (((os s)[i]'hi).toNat : Int)
      · rw [if_pos c1]
        by_cases c2 : (((os s)[i]'hi).toNat : Int) ≤ 90
        · rw [if_pos c2]
          refine step _ ?_
          unfold dns_Fold.b
          rw [if_pos (by omega)]
          congr 1
          omega
        · rw [if_neg c2]
          refine step _ ?_
          unfold dns_Fold.b
          rw [if_neg (by omega), Int.toNat_natCast, UInt8.ofNat_toNat]
      · rw [if_neg c1]
        refine step _ ?_
        unfold dns_Fold.b
        rw [if_neg (by omega), Int.toNat_natCast, UInt8.ofNat_toNat]
    · rw [tollref01_Fold.l0, if_neg (by omega)]
      refine ⟨_, rfl, ?_⟩
      rw [List.drop_eq_nil_of_le (by omega)]; simp
theorem same_r (a b : ByteArray) (k : Nat) (hk : 200 ≤ k) (ha : (os a).length ≤ 100) (hb : (os b).length ≤ 100) : tollref05_Same.f k a b = some (eqN a b) := by
  unfold tollref05_Same.f tollref01_Fold.f eqN
  obtain ⟨t, e, ht⟩ := foldR_loop a (by omega) 100 0 k ⟨#[]⟩ (by omega) (by omega) (by simp) (by omega)
  obtain ⟨u, e', hu⟩ := foldR_loop b (by omega) 100 0 k ⟨#[]⟩ (by omega) (by omega) (by simp) (by omega)
  have e1 : tollref01_Fold.l0 k a ⟨#[]⟩ 0 = some t := e
  have e2 : tollref01_Fold.l0 k b ⟨#[]⟩ 0 = some u := e'
  rw [e1, Option.bind_some, e2, Option.bind_some, toList_os, toList_os, ht, hu]
  rfl

theorem wrapS {i : Nat} (h : i ≤ 100000) : wrap64 ((i : Int) + 1) = ((i + 1 : Nat) : Int) := by rw [wrap64_id (by omega) (by omega)]; omega
noncomputable def allL (n : ByteArray) (l : List PT) : List ByteArray := (l.filter fun x => eqN x.f0 n).map fun x => x.f1
end Go.Proofs.YtpmllmfamjpinaaDoor.L
namespace Go.Proofs.YtpmllmfamjpinaaDoor.L
open Go Go.RowKit Go.Proofs.YtpmllmfamjpinaaDoor.P Go.Proofs.YtpmllmfamjpinaaDoorW.PrintWords Go.Proofs.YtpmllmfamjpinaaDoorW.PrintLast

end Go.Proofs.YtpmllmfamjpinaaDoor.L
namespace Go.Proofs.YtpmllmfamjpinaaDoor.L
open Go Go.RowKit Go.Proofs.YtpmllmfamjpinaaDoor.P Go.Proofs.YtpmllmfamjpinaaDoorW.PrintWords Go.Proofs.YtpmllmfamjpinaaDoorW.PrintLast

noncomputable def marks : List UInt8 := [33, 35, 36, 37, 38, 39, 42, 43, 45, 46, 94, 95, 96, 124, 126]
noncomputable def tok (c : UInt8) : Bool := (decide (97 ≤ c.toNat ||| 32) && decide (c.toNat ||| 32 ≤ 122)) || ((decide (48 ≤ c.toNat) && decide (c.toNat ≤ 57)) || marks.any (· == c))
noncomputable def tokR (c : UInt8) : Bool := (decide (48 ≤ c.toNat) && decide (c.toNat ≤ 57)) || ((decide (65 ≤ c.toNat) && decide (c.toNat ≤ 90)) || ((decide (97 ≤ c.toNat) && decide (c.toNat ≤ 122)) || marks.any (· == c)))
theorem bits_or : ∀ n : Fin 256, Go.bits .or .u8 ((n : Nat) : Int) 32 = (((n : Nat) ||| 32 : Nat) : Int) := by decide +kernel
theorem bits_or' (c : UInt8) : Go.bits .or .u8 ((c.toNat : Nat) : Int) 32 = ((c.toNat ||| 32 : Nat) : Int) := bits_or ⟨c.toNat, c.toNat_lt⟩
theorem tok_all : ∀ n : Fin 256, tok (UInt8.ofNat n) = tokR (UInt8.ofNat n) := by decide +kernel
theorem tok_eq (c : UInt8) : tok c = tokR c := by
  have := tok_all ⟨c.toNat, c.toNat_lt⟩
  rwa [show UInt8.ofNat ((⟨c.toNat, c.toNat_lt⟩ : Fin 256) : Nat) = c from UInt8.ofNat_toNat] at this
noncomputable def isTok (l : List UInt8) : Bool := l.all tok && (decide (l ≠ []) && decide (l.length ≤ 40))
theorem bt_c {s : ByteArray} {i : Nat} (h : i < (os s).length) : bt s (i : Int) = (((os s)[i]'h).toNat : Int) := by
  rw [bt_os, List.getElem?_eq_getElem h]; rfl
theorem fin_tok (s : ByteArray) : (if os s = ([] : List UInt8) then (some false : Option Bool) else some (decide ((s.size : Int) ≤ 40))) = some (decide (os s ≠ []) && decide ((os s).length ≤ 40)) := by
  have hsz := size_os s
  by_cases h : os s = []
  · rw [if_pos h, h]; rfl
  · rw [if_neg h, show decide (os s ≠ []) = true from decide_eq_true h, Bool.true_and]
    congr 1
    rw [decide_eq_decide]; omega
theorem tok_p_loop (s : ByteArray) (hs : (os s).length ≤ 1000) : ∀ (n i k : Nat), (os s).length - i ≤ n → i ≤ (os s).length → n + 1 ≤ k → pairs_Token.l0 k s (s.size : Int) (i : Int) = some (((os s).drop i).all tok && (decide (os s ≠ []) && decide ((os s).length ≤ 40))) := by
  have hsz := size_os s
  intro n
  induction n with
  | zero =>
    intro i k h1 h2 h3
    obtain ⟨k, rfl⟩ : ∃ m, k = m + 1 := ⟨k - 1, by omega⟩
    rw [pairs_Token.l0, if_neg (by omega), List.drop_eq_nil_of_le (by omega), toList_os, fin_tok]; rfl
  | succ n ih =>
    intro i k h1 h2 h3
    obtain ⟨k, rfl⟩ : ∃ m, k = m + 1 := ⟨k - 1, by omega⟩
    by_cases hi : i < (os s).length
    · rw [pairs_Token.l0, if_pos (by omega), if_pos (by omega), if_pos (by omega), bt_c hi, bits_or', wrapS (by omega), ih (i + 1) k (by omega) (by omega) (by omega), List.drop_eq_getElem_cons hi, List.all_cons]
      generalize (os s)[i]'hi = c
      rw [Bool.and_assoc]
      generalize (((os s).drop (i + 1)).all tok && (decide (os s ≠ []) && decide ((os s).length ≤ 40))) = rest
      have hf : ∀ c : UInt8, strings_IndexByte.f ⟨#[33, 35, 36, 37, 38, 39, 42, 43, 45, 46, 94, 95, 96, 124, 126]⟩ ((c.toNat : Nat) : Int) = some (firstIdx ⟨#[33, 35, 36, 37, 38, 39, 42, 43, 45, 46, 94, 95, 96, 124, 126]⟩ c) := fun c => by
        unfold strings_IndexByte.f stringslite_IndexByte.f
        rw [Option.bind_some, Int.toNat_natCast, show c.toNat.toUInt8 = c from UInt8.ofNat_toNat]
      have hm := firstIdx_nonneg ⟨#[33, 35, 36, 37, 38, 39, 42, 43, 45, 46, 94, 95, 96, 124, 126]⟩ c
      have hmm : (⟨#[33, 35, 36, 37, 38, 39, 42, 43, 45, 46, 94, 95, 96, 124, 126]⟩ : ByteArray).data.toList = marks := rfl
      rw [hmm] at hm
      have ht : tok c = ((decide (97 ≤ c.toNat ||| 32) && decide (c.toNat ||| 32 ≤ 122)) || ((decide (48 ≤ c.toNat) && decide (c.toNat ≤ 57)) || marks.any (· == c))) := rfl
      rw [ht, ← hm, hf]
      simp only [Option.bind_some]
      generalize firstIdx ⟨#[33, 35, 36, 37, 38, 39, 42, 43, 45, 46, 94, 95, 96, 124, 126]⟩ c = x
      generalize c.toNat ||| 32 = y
      generalize c.toNat = z
      by_cases a1 : (97 : Int) ≤ (y : Int) <;> by_cases a2 : (y : Int) ≤ 122 <;> by_cases a3 : (48 : Int) ≤ (z : Int) <;> by_cases a4 : (z : Int) ≤ 57 <;> by_cases a5 : 0 ≤ x <;> simp [a1, a2, a3, a4, a5, ge_iff_le] <;> omega
    · rw [pairs_Token.l0, if_neg (by omega), List.drop_eq_nil_of_le (by omega), toList_os, fin_tok]; rfl
theorem tok_p (s : ByteArray) (hs : (os s).length ≤ 1000) (k : Nat) (hk : 1100 ≤ k) : pairs_Token.f k s = some (isTok (os s)) := by
  have := tok_p_loop s hs (os s).length 0 k (by omega) (by omega) (by omega)
  rw [List.drop_zero] at this
  exact this
theorem tokR_j2 (k : Nat) (s : ByteArray) (i : Int) (a b : Bool) : tollref05_Token.j2 (k + 1) s i a b = if (b || a) = true then tollref05_Token.l0 k s (wrap64 (i + 1)) else some false := by
  rw [tollref05_Token.j2]; cases a <;> cases b <;> rfl
noncomputable def marksI (n : Int) : Bool := decide (n = 33) || (decide (n = 35) || (decide (n = 36) || (decide (n = 37) || (decide (n = 38) || (decide (n = 39) || (decide (n = 42) || (decide (n = 43) || (decide (n = 45) || (decide (n = 46) || (decide (n = 94) || (decide (n = 95) || (decide (n = 96) || (decide (n = 124) || decide (n = 126))))))))))))))
theorem marks_all : ∀ n : Fin 256, marks.any (· == UInt8.ofNat n) = marksI ((n : Nat) : Int) := by decide +kernel
theorem marks_eq (c : UInt8) : marks.any (· == c) = marksI (c.toNat : Int) := by
  have := marks_all ⟨c.toNat, c.toNat_lt⟩
  rwa [show UInt8.ofNat ((⟨c.toNat, c.toNat_lt⟩ : Fin 256) : Nat) = c from UInt8.ofNat_toNat] at this
theorem tokR_j1 (k : Nat) (s : ByteArray) (i n : Int) (a : Bool) : tollref05_Token.j1 (k + 2) s i n a = if (marksI n || a) = true then tollref05_Token.l0 k s (wrap64 (i + 1)) else some false := by
  have hj : ∀ b : Bool, tollref05_Token.j2 (k + 1) s i a b = if (b || a) = true then tollref05_Token.l0 k s (wrap64 (i + 1)) else some false := tokR_j2 k s i a
  rw [tollref05_Token.j1]
  simp only [hj]
  by_cases h33 : n = 33
  · subst h33; rfl
  by_cases h35 : n = 35
  · subst h35; rfl
  by_cases h36 : n = 36
  · subst h36; rfl
  by_cases h37 : n = 37
  · subst h37; rfl
  by_cases h38 : n = 38
  · subst h38; rfl
  by_cases h39 : n = 39
  · subst h39; rfl
  by_cases h42 : n = 42
  · subst h42; rfl
  by_cases h43 : n = 43
  · subst h43; rfl
  by_cases h45 : n = 45
  · subst h45; rfl
  by_cases h46 : n = 46
  · subst h46; rfl
  by_cases h94 : n = 94
  · subst h94; rfl
  by_cases h95 : n = 95
  · subst h95; rfl
  by_cases h96 : n = 96
  · subst h96; rfl
  by_cases h124 : n = 124
  · subst h124; rfl
  rw [if_neg h33, if_neg h35, if_neg h36, if_neg h37, if_neg h38, if_neg h39, if_neg h42, if_neg h43, if_neg h45, if_neg h46, if_neg h94, if_neg h95, if_neg h96, if_neg h124]
  unfold marksI
  simp only [h33, h35, h36, h37, h38, h39, h42, h43, h45, h46, h94, h95, h96, h124, decide_false, Bool.false_or]
  by_cases h126 : n = 126
  · subst h126; rfl
  · rw [show (n == 126) = false from beq_eq_false_iff_ne.2 h126, show decide (n = 126) = false from decide_eq_false h126]
theorem tok_r_loop (s : ByteArray) (hs : (os s).length ≤ 1000) : ∀ (n i k : Nat), (os s).length - i ≤ n → i ≤ (os s).length → 3 * n + 3 ≤ k → tollref05_Token.l0 k s (i : Int) = some (((os s).drop i).all tok && (decide (os s ≠ []) && decide ((os s).length ≤ 40))) := by
  have hsz := size_os s
  have hend : ∀ k, tollref05_Token.l0 (k + 1) s ((os s).length : Int) = some (decide (os s ≠ []) && decide ((os s).length ≤ 40)) := fun k => by
    rw [tollref05_Token.l0, if_neg (by omega)]
    by_cases h : os s = []
    · rw [if_neg (by rw [hsz, h]; decide), h]; rfl
    · have : 1 ≤ (os s).length := by cases hh : os s with | nil => exact absurd hh h | cons => simp
      rw [if_pos (by omega), show decide (os s ≠ []) = true from decide_eq_true h, Bool.true_and]
      congr 1
      rw [decide_eq_decide]; omega
  intro n
  induction n with
  | zero =>
    intro i k h1 h2 h3
    obtain ⟨k, rfl⟩ : ∃ m, k = m + 1 := ⟨k - 1, by omega⟩
    obtain rfl : i = (os s).length := by omega
    rw [hend, List.drop_length]; rfl
  | succ n ih =>
    intro i k h1 h2 h3
    obtain ⟨k, rfl⟩ : ∃ m, k = m + 3 := ⟨k - 3, by omega⟩
    by_cases hi : i < (os s).length
    · rw [tollref05_Token.l0, if_pos (by omega), if_pos (by omega), bt_c hi]
      simp only [tokR_j1]
      rw [wrapS (by omega), ih (i + 1) k (by omega) (by omega) (by omega), List.drop_eq_getElem_cons hi, List.all_cons, tok_eq]
      generalize (os s)[i]'hi = c
      rw [Bool.and_assoc]
      generalize (((os s).drop (i + 1)).all tok && (decide (os s ≠ []) && decide ((os s).length ≤ 40))) = rest
      rw [tokR, marks_eq]
      generalize marksI (c.toNat : Int) = m
      generalize c.toNat = z
      simp only [show ((48 : Int) ≤ (z : Int)) = (48 ≤ z) from propext (by omega), show ((z : Int) ≤ 57) = (z ≤ 57) from propext (by omega), show ((65 : Int) ≤ (z : Int)) = (65 ≤ z) from propext (by omega), show ((z : Int) ≤ 90) = (z ≤ 90) from propext (by omega), show ((97 : Int) ≤ (z : Int)) = (97 ≤ z) from propext (by omega), show ((z : Int) ≤ 122) = (z ≤ 122) from propext (by omega)]
      by_cases a1 : 48 ≤ z <;> by_cases a2 : z ≤ 57 <;> by_cases a3 : 65 ≤ z <;> by_cases a4 : z ≤ 90 <;> by_cases a5 : 97 ≤ z <;> by_cases a6 : z ≤ 122 <;> cases m <;> simp [a1, a2, a3, a4, a5, a6]
    · obtain rfl : i = (os s).length := by omega
      rw [show k + 3 = (k + 2) + 1 from rfl, hend, List.drop_length]; rfl
theorem tok_r (s : ByteArray) (hs : (os s).length ≤ 1000) (k : Nat) (hk : 3100 ≤ k) : tollref05_Token.f k s = some (isTok (os s)) := by
  have := tok_r_loop s hs (os s).length 0 k (by omega) (by omega) (by omega)
  rw [List.drop_zero] at this
  exact this
noncomputable def isVal (l : List UInt8) : Bool := l.all (fun c => decide (32 ≤ c.toNat) && decide (c.toNat ≤ 126)) && (decide (l.length ≤ 40) && (decide (l.head? ≠ some 32) && decide (l.getLast? ≠ some 32)))
theorem dropWhile_len {α : Type} (p : α → Bool) : ∀ l : List α, (l.dropWhile p).length ≤ l.length ∧ ((l.dropWhile p).length = l.length → l.dropWhile p = l ∧ ∀ a, l.head? = some a → p a = false)
  | [] => ⟨Nat.le_refl _, fun _ => ⟨rfl, fun a h => by cases h⟩⟩
  | a :: r => by
    have ih := dropWhile_len p r
    rw [List.dropWhile_cons]
    cases h : p a with
    | true =>
      simp only [if_true, List.length_cons]
      exact ⟨by omega, fun h => by omega⟩
    | false => exact ⟨Nat.le_refl _, fun _ => ⟨rfl, fun b hb => by cases hb; exact h⟩⟩
theorem dropWhile_id {α : Type} (p : α → Bool) (l : List α) (h : ∀ a, l.head? = some a → p a = false) : l.dropWhile p = l := by
  cases l with
  | nil => rfl
  | cons a r => rw [List.dropWhile_cons, h a rfl]; rfl
noncomputable def valAt (l : List UInt8) (i : Nat) (c : UInt8) : Bool := (decide (32 ≤ c.toNat) && decide (c.toNat ≤ 126)) && !(decide (c = 32) && (decide (i = 0) || decide (i + 1 = l.length)))
theorem val_r_loop (s : ByteArray) (hs : (os s).length ≤ 1000) : ∀ (n i k : Nat), (os s).length - i ≤ n → i ≤ (os s).length → n + 1 ≤ k → ∃ b, tollref05_Value.l0 k s (i : Int) = some b ∧ (b = true ↔ (os s).length ≤ 40 ∧ ∀ j (hj : j < (os s).length), i ≤ j → valAt (os s) j ((os s)[j]'hj) = true) := by
  have hsz := size_os s
  have hend : ∀ k, ∃ b, tollref05_Value.l0 (k + 1) s ((os s).length : Int) = some b ∧ (b = true ↔ (os s).length ≤ 40 ∧ ∀ j (hj : j < (os s).length), (os s).length ≤ j → valAt (os s) j ((os s)[j]'hj) = true) := fun k => by
    rw [tollref05_Value.l0, if_neg (by omega)]
    refine ⟨_, rfl, ?_⟩
    rw [decide_eq_true_eq]
    exact ⟨fun h => ⟨by omega, fun j hj hj' => by omega⟩, fun h => by have := h.1; omega⟩
  intro n
  induction n with
  | zero =>
    intro i k h1 h2 h3
    obtain ⟨k, rfl⟩ : ∃ m, k = m + 1 := ⟨k - 1, by omega⟩
    obtain rfl : i = (os s).length := by omega
    exact hend k
  | succ n ih =>
    intro i k h1 h2 h3
    obtain ⟨k, rfl⟩ : ∃ m, k = m + 1 := ⟨k - 1, by omega⟩
    by_cases hi : i < (os s).length
    · obtain ⟨b, e, hb⟩ := ih (i + 1) k (by omega) (by omega) (by omega)
      have hno : valAt (os s) i ((os s)[i]'hi) = false → ∃ b, some false = some b ∧ (b = true ↔ (os s).length ≤ 40 ∧ ∀ j (hj : j < (os s).length), i ≤ j → valAt (os s) j ((os s)[j]'hj) = true) := fun h => ⟨false, rfl, ⟨fun hf => Bool.noConfusion hf, fun h' => (by have := h'.2 i hi (Nat.le_refl _); rw [h] at this; cases this)⟩⟩
      have hyes : valAt (os s) i ((os s)[i]'hi) = true → ∃ b', some b = some b' ∧ (b' = true ↔ (os s).length ≤ 40 ∧ ∀ j (hj : j < (os s).length), i ≤ j → valAt (os s) j ((os s)[j]'hj) = true) := fun h => ⟨b, rfl, hb.trans ⟨fun h' => ⟨h'.1, fun j hj hij => by
        rcases Nat.lt_or_ge i j with h4 | h4
        · exact h'.2 j hj (by omega)
        · obtain rfl : i = j := by omega
          exact h⟩, fun h' => ⟨h'.1, fun j hj hij => h'.2 j hj (by omega)⟩⟩⟩
      rw [tollref05_Value.l0, if_pos (by omega), bt_c hi, wrapS (by omega), e]
      have hc : ∀ c : UInt8, ((c.toNat : Int) = 32) ↔ c = 32 := fun c => ⟨fun h => UInt8.toNat_inj.1 (by have : (32 : UInt8).toNat = 32 := rfl; omega), fun h => by rw [h]; rfl⟩
      simp only [hc, show ((i : Int) = 0) = (i = 0) from propext (by omega), show ((i : Int) = wrap64 ((s.size : Int) - 1)) = (i + 1 = (os s).length) from propext (by rw [wrap64_id (by omega) (by omega)]; omega)]
      generalize hcc : (os s)[i]'hi = c at *
      have n1 : ((c.toNat : Int) < 32) = ¬ (32 ≤ c.toNat) := propext (by omega)
      have n2 : ((c.toNat : Int) > 126) = ¬ (c.toNat ≤ 126) := propext (by omega)
      have n3 : ((0 : Int) ≤ (i : Int)) = True := eq_true (by omega)
      simp only [n1, n2, n3, if_true]
      by_cases a4 : i = 0
      · rw [if_pos a4]
        by_cases a1 : 32 ≤ c.toNat
        · rw [if_neg (not_not_intro a1)]
          by_cases a2 : c.toNat ≤ 126
          · rw [if_neg (not_not_intro a2)]
            by_cases a3 : c = 32
            · rw [if_pos a3]; exact hno (by unfold valAt; rw [decide_eq_true a3, decide_eq_true a4]; simp)
            · rw [if_neg a3]; exact hyes (by unfold valAt; rw [decide_eq_true a1, decide_eq_true a2, decide_eq_false a3]; rfl)
          · rw [if_pos a2]; exact hno (by unfold valAt; rw [decide_eq_false a2, Bool.and_false]; rfl)
        · rw [if_pos a1]; exact hno (by unfold valAt; rw [decide_eq_false a1]; rfl)
      · rw [if_neg a4]
        by_cases a1 : 32 ≤ c.toNat
        · rw [if_neg (not_not_intro a1)]
          by_cases a2 : c.toNat ≤ 126
          · rw [if_neg (not_not_intro a2)]
            by_cases a3 : c = 32
            · rw [if_pos a3]
              by_cases a5 : i + 1 = (os s).length
              · rw [if_pos a5]; exact hno (by unfold valAt; rw [decide_eq_true a3, decide_eq_true a5]; simp)
              · rw [if_neg a5]; exact hyes (by unfold valAt; rw [decide_eq_true a1, decide_eq_true a2, decide_eq_false a4, decide_eq_false a5]; simp)
            · rw [if_neg a3]; exact hyes (by unfold valAt; rw [decide_eq_true a1, decide_eq_true a2, decide_eq_false a3]; rfl)
          · rw [if_pos a2]; exact hno (by unfold valAt; rw [decide_eq_false a2, Bool.and_false]; rfl)
        · rw [if_pos a1]; exact hno (by unfold valAt; rw [decide_eq_false a1]; rfl)
    · obtain rfl : i = (os s).length := by omega
      exact hend k
theorem val_r (s : ByteArray) (hs : (os s).length ≤ 1000) (k : Nat) (hk : 1100 ≤ k) : tollref05_Value.f k s = some (isVal (os s)) := by
  obtain ⟨b, e, hb⟩ := val_r_loop s hs (os s).length 0 k (by omega) (by omega) (by omega)
  have e' : tollref05_Value.f k s = some b := e
  rw [e']
  congr 1
  rw [Bool.eq_iff_iff, hb]
  unfold isVal
  simp only [Bool.and_eq_true, decide_eq_true_eq, List.all_eq_true]
  constructor
  · rintro ⟨h1, h2⟩
    have h3 : ∀ j (hj : j < (os s).length), valAt (os s) j ((os s)[j]'hj) = true := fun j hj => h2 j hj (Nat.zero_le _)
    refine ⟨fun c hc => ?_, h1, fun h => ?_, fun h => ?_⟩
    · obtain ⟨j, hj, rfl⟩ := List.getElem_of_mem hc
      have := h3 j hj
      unfold valAt at this
      simp only [Bool.and_eq_true, decide_eq_true_eq] at this
      exact this.1
    · rw [List.head?_eq_getElem?] at h
      obtain ⟨hj, h4⟩ := List.getElem?_eq_some_iff.1 h
      have := h3 0 hj
      rw [h4] at this
      revert this; unfold valAt; simp
    · rw [List.getLast?_eq_getElem?] at h
      obtain ⟨hj, h4⟩ := List.getElem?_eq_some_iff.1 h
      have := h3 _ hj
      rw [h4] at this
      revert this; unfold valAt; simp; omega
  · rintro ⟨h1, h2, h3, h4⟩
    refine ⟨h2, fun j hj _ => ?_⟩
    have hc := h1 _ (List.getElem_mem hj)
    unfold valAt
    rw [decide_eq_true hc.1, decide_eq_true hc.2]
    by_cases a : (os s)[j]'hj = 32
    · have n0 : ¬ j = 0 := fun e => by
        subst e
        exact h3 (by rw [List.head?_eq_getElem?, List.getElem?_eq_getElem hj, a])
      have n1 : ¬ j + 1 = (os s).length := fun e => by
        refine h4 ?_
        rw [List.getLast?_eq_getElem?, show (os s).length - 1 = j by omega, List.getElem?_eq_getElem hj, a]
      rw [decide_eq_false n0, decide_eq_false n1, Bool.or_self, Bool.and_false]; rfl
    · rw [decide_eq_false a]; rfl
end Go.Proofs.YtpmllmfamjpinaaDoor.L
namespace Go.Proofs.YtpmllmfamjpinaaDoor.L
open Go Go.RowKit Go.Proofs.YtpmllmfamjpinaaDoor.P Go.Proofs.YtpmllmfamjpinaaDoorW.PrintWords Go.Proofs.YtpmllmfamjpinaaDoorW.PrintLast

noncomputable def big (c : UInt8) : Bool := decide (65 ≤ c.toNat) && decide (c.toNat ≤ 90)
noncomputable def isMeth (l : List UInt8) : Bool := decide (l ≠ []) && (decide (l.length ≤ 10) && l.all big)
theorem meth_p (s : ByteArray) : rule_Method.f s = some (isMeth (os s)) := by
  have hs := size_os s
  unfold rule_Method.f isMeth
  rw [toList_os]
  by_cases h : os s = []
  · rw [if_pos h, h]; rfl
  · rw [if_neg h, decide_eq_true h, Bool.true_and]
    by_cases h2 : (os s).length ≤ 10
    · rw [if_pos (by omega), decide_eq_true h2, Bool.true_and]
      unfold strings_IndexFunc_with_rule_Method_1.f
      rw [Option.bind_some, idxRune_neg _ (fun r hr => by unfold strings_IndexFunc_with_rule_Method_1.p; rw [decide_eq_true (show 90 < r by omega), Bool.or_true])]
      congr 1
      rw [Bool.eq_iff_iff, List.all_eq_true, List.all_eq_true]
      have hb : ∀ c : UInt8, (!strings_IndexFunc_with_rule_Method_1.p c.toNat) = big c := fun c => by
        unfold strings_IndexFunc_with_rule_Method_1.p big
        by_cases a : c.toNat < 65
        · rw [decide_eq_true a, decide_eq_false (show ¬ 65 ≤ c.toNat by omega)]; rfl
        · rw [decide_eq_false a, decide_eq_true (show 65 ≤ c.toNat by omega)]
          by_cases b : 90 < c.toNat
          · rw [decide_eq_true b, decide_eq_false (show ¬ c.toNat ≤ 90 by omega)]; rfl
          · rw [decide_eq_false b, decide_eq_true (show c.toNat ≤ 90 by omega)]; rfl
      exact ⟨fun h c hc => by rw [← hb]; exact h c hc, fun h c hc => by rw [hb]; exact h c hc⟩
    · rw [if_neg (by omega), decide_eq_false h2, Bool.false_and]
noncomputable def isQ (l : List PT) : Bool := l.all (fun x => decide (os x.f0 ≠ []) && (decide ((os x.f0).length ≤ 40) && decide ((os x.f1).length ≤ 40))) && decide (l.length ≤ 20)
theorem q_p_loop (l : List PT) (hl : l.length ≤ 1000) : ∀ (n i k : Nat), l.length - i ≤ n → i ≤ l.length → n + 1 ≤ k → query_May.l0 k l l (l.length : Int) (i : Int) = some ((l.drop i).all (fun x => decide (os x.f0 ≠ []) && (decide ((os x.f0).length ≤ 40) && decide ((os x.f1).length ≤ 40))) && decide (l.length ≤ 20)) := by
  have hend : ∀ k, query_May.l0 (k + 1) l l (l.length : Int) ((l.length : Nat) : Int) = some (decide (l.length ≤ 20)) := fun k => by
    rw [query_May.l0, if_neg (by omega)]
    congr 1
    rw [decide_eq_decide]; omega
  intro n
  induction n with
  | zero =>
    intro i k h1 h2 h3
    obtain ⟨k, rfl⟩ : ∃ m, k = m + 1 := ⟨k - 1, by omega⟩
    obtain rfl : i = l.length := by omega
    rw [hend, List.drop_length]; rfl
  | succ n ih =>
    intro i k h1 h2 h3
    obtain ⟨k, rfl⟩ : ∃ m, k = m + 1 := ⟨k - 1, by omega⟩
    by_cases hi : i < l.length
    · have z0 := size_os (l[i]'hi).f0
      have z1 := size_os (l[i]'hi).f1
      rw [query_May.l0, if_pos (by omega), if_pos (by omega), if_pos (by omega), rd_at l i hi, wrapS (by omega), ih (i + 1) k (by omega) (by omega) (by omega), List.drop_eq_getElem_cons hi, List.all_cons, toList_os]
      by_cases a1 : os (l[i]'hi).f0 = []
      · rw [if_pos a1, show decide (os (l[i]'hi).f0 ≠ []) = false from decide_eq_false (fun h => h a1)]; rfl
      · rw [if_neg a1, show decide (os (l[i]'hi).f0 ≠ []) = true from decide_eq_true a1]
        by_cases a2 : (os (l[i]'hi).f0).length ≤ 40
        · rw [if_neg (by omega), decide_eq_true a2]
          by_cases a3 : (os (l[i]'hi).f1).length ≤ 40
          · rw [if_neg (by omega), decide_eq_true a3]; rfl
          · rw [if_pos (by omega), decide_eq_false a3]; rfl
        · rw [if_pos (by omega), decide_eq_false a2]; rfl
    · obtain rfl : i = l.length := by omega
      rw [hend, List.drop_length]; rfl
theorem q_p (l : List PT) (hl : l.length ≤ 1000) (k : Nat) (hk : 1100 ≤ k) : query_May.f k l = some (isQ l) := by
  have := q_p_loop l hl l.length 0 k (by omega) (by omega) (by omega)
  rw [List.drop_zero] at this
  exact this
noncomputable def headOK (l : List PT) : Bool := l.all fun x => isTok (os x.f0) && isVal (os x.f1)
noncomputable def row (e : ByteArray → ByteArray → Bool) (l : List PT) (j : Nat) : Bool := (l.take j).any fun x => e x.f0 (l.getD j ⟨⟨#[]⟩, ⟨#[]⟩⟩).f0
end Go.Proofs.YtpmllmfamjpinaaDoor.L
namespace Go.Proofs.YtpmllmfamjpinaaDoor.L
open Go Go.RowKit Go.Proofs.YtpmllmfamjpinaaDoor.P Go.Proofs.YtpmllmfamjpinaaDoorW.PrintWords Go.Proofs.YtpmllmfamjpinaaDoorW.PrintLast

noncomputable def nm (l : List UInt8) : Bool := decide (l.length ≤ 60) && (pieces 46 ⟨l.toArray⟩).all labB
theorem name_p (s : ByteArray) : dns_Name.f s = some (nm (os s)) := by
  unfold dns_Name.f nm
  rw [size_os s]
end Go.Proofs.YtpmllmfamjpinaaDoor.L
namespace Go.Proofs.YtpmllmfamjpinaaDoor.L
open Go Go.RowKit Go.Proofs.YtpmllmfamjpinaaDoor.P Go.Proofs.YtpmllmfamjpinaaDoorW.PrintWords Go.Proofs.YtpmllmfamjpinaaDoorW.PrintLast

noncomputable def splitL (c : UInt8) : List UInt8 → List (List UInt8)
  | [] => [[]]
  | x :: r => if x = c then [] :: splitL c r else (x :: (splitL c r).headD []) :: (splitL c r).tail
theorem splitL_free {c : UInt8} : ∀ {u : List UInt8}, c ∉ u → splitL c u = [u]
  | [], _ => rfl
  | x :: r, h => by
    have hx : x ≠ c := fun e => h (by rw [e]; simp)
    rw [splitL, if_neg hx, splitL_free (u := r) (fun hm => h (List.mem_cons_of_mem _ hm))]; rfl
theorem splitL_at {c : UInt8} : ∀ {u : List UInt8} (v : List UInt8), c ∉ u → splitL c (u ++ c :: v) = u :: splitL c v
  | [], v, _ => by rw [List.nil_append, splitL, if_pos rfl]
  | x :: r, v, h => by
    have hx : x ≠ c := fun e => h (by rw [e]; simp)
    rw [List.cons_append, splitL, if_neg hx, splitL_at v (fun hm => h (List.mem_cons_of_mem _ hm))]; rfl
theorem get_bang (s : ByteArray) (i : Nat) (h : i < (os s).length) : s[i]! = (os s)[i]'h := by
  have hs := size_os s
  rw [getElem!_pos s i (by omega)]
  rfl
theorem firstIdx_two (s : ByteArray) (c : UInt8) : (firstIdx s c = -1 ∧ c ∉ os s) ∨ ∃ i : Nat, firstIdx s c = (i : Int) ∧ ∃ h : i < (os s).length, c ∉ (os s).take i ∧ (os s)[i] = c := by
  have hs := size_os s
  unfold firstIdx
  cases hf : (List.range s.size).find? (fun i => s[i]! == c) with
  | none =>
    left
    refine ⟨rfl, fun hm => ?_⟩
    obtain ⟨i, hi, hc⟩ := List.getElem_of_mem hm
    have := List.find?_eq_none.1 hf i (List.mem_range.2 (by omega))
    rw [get_bang s i hi, hc] at this
    simp at this
  | some i =>
    right
    have hi := List.mem_range.1 (List.mem_of_find?_eq_some hf)
    have hil : i < (os s).length := by omega
    refine ⟨i, rfl, hil, fun hm => ?_, ?_⟩
    · obtain ⟨j, hj, hc⟩ := List.getElem_of_mem hm
      rw [List.length_take] at hj
      rw [List.getElem_take] at hc
      have h1 := (List.find?_eq_some_iff_getElem.1 hf).2
      obtain ⟨k, hk, hki, hlt⟩ := h1
      rw [List.length_range] at hk
      rw [List.getElem_range] at hki
      subst hki
      have := hlt j (by omega)
      rw [List.getElem_range, get_bang s j (by omega), hc] at this
      simp at this
    · have := List.find?_some hf
      rw [get_bang s i hil] at this
      exact eq_of_beq this
theorem pieces_p (c : UInt8) : ∀ (n : Nat) (s : ByteArray), (os s).length ≤ n → (pieces c s).map os = splitL c (os s) := by
  intro n
  induction n with
  | zero =>
    intro s h
    rcases firstIdx_two s c with ⟨h1, h2⟩ | ⟨i, _, h2, _⟩
    · unfold pieces
      rw [cuts_neg (by rw [h1]; decide), splitL_free h2]; rfl
    · omega
  | succ n ih =>
    intro s h
    have hs := size_os s
    rcases firstIdx_two s c with ⟨h1, h2⟩ | ⟨i, h1, h2, h3, h4⟩
    · unfold pieces
      rw [cuts_neg (by rw [h1]; decide), splitL_free h2]; rfl
    · have e := cuts_cons (fun t => firstIdx t c) 1 (Nat.le_refl _) (fun t h => firstIdx_fit c t h) (s := s) (i := i) h1
      have e2 : os s = (os s).take i ++ c :: (os s).drop (i + 1) := by
        conv => lhs; rw [← List.take_append_drop i (os s), List.drop_eq_getElem_cons h2, h4]
      have e3 : os (s.extract (i + 1) s.size) = (os s).drop (i + 1) := by rw [os_extract, List.take_of_length_le (by rw [List.length_drop]; omega)]
      have e4 : os (s.extract 0 i) = (os s).take i := by rw [os_extract, List.drop_zero, Nat.sub_zero]
      have := ih (s.extract (i + 1) s.size) (by rw [e3, List.length_drop]; omega)
      unfold pieces at this ⊢
      rw [e, List.map_cons, this, e3, e4]
      conv => rhs; rw [e2]
      rw [splitL_at _ h3]
end Go.Proofs.YtpmllmfamjpinaaDoor.L
namespace Go.Proofs.YtpmllmfamjpinaaDoor.L
open Go Go.RowKit Go.Proofs.YtpmllmfamjpinaaDoor.P Go.Proofs.YtpmllmfamjpinaaDoorW.PrintWords Go.Proofs.YtpmllmfamjpinaaDoorW.PrintLast

noncomputable def lastN (c : Int) (l : List UInt8) : Nat → Int
  | 0 => -1
  | n + 1 => if ((l[n]?.getD 0).toNat : Int) = c then (n : Int) else lastN c l n
theorem lastN_bound (c : Int) (l : List UInt8) : ∀ n, -1 ≤ lastN c l n ∧ lastN c l n < n
  | 0 => by rw [lastN]; omega
  | n + 1 => by
    have := lastN_bound c l n
    rw [lastN]; split <;> omega
theorem last_loop (s : ByteArray) (c : Int) (hs : (os s).length ≤ 1000) : ∀ (n k : Nat), n ≤ (os s).length → n + 1 ≤ k → bytealg_LastIndexByteString.l0 k s c ((n : Int) - 1) = some (lastN c (os s) n) := by
  have hz := size_os s
  intro n
  induction n with
  | zero =>
    intro k h1 h2
    obtain ⟨k, rfl⟩ : ∃ m, k = m + 1 := ⟨k - 1, by omega⟩
    rw [bytealg_LastIndexByteString.l0, if_neg (by omega), lastN]
  | succ n ih =>
    intro k h1 h2
    obtain ⟨k, rfl⟩ : ∃ m, k = m + 1 := ⟨k - 1, by omega⟩
    rw [bytealg_LastIndexByteString.l0, if_pos (by omega), if_pos (by omega), if_pos (by omega), show ((n + 1 : Nat) : Int) - 1 = (n : Int) by omega, bt_os, lastN, wrap64_id (by omega) (by omega), ih k (by omega) (by omega)]
    split <;> rfl
theorem last_p (s : ByteArray) (c : Int) (hs : (os s).length ≤ 1000) (k : Nat) (hk : 1002 ≤ k) : strings_LastIndexByte.f k s c = some (lastN c (os s) (os s).length) := by
  have hz := size_os s
  unfold strings_LastIndexByte.f bytealg_LastIndexByteString.f
  rw [wrap64_id (by omega) (by omega), hz, last_loop s c hs _ k (Nat.le_refl _) (by omega), Option.bind_some]
noncomputable def digits : List UInt8 := [48, 49, 50, 51, 52, 53, 54, 55, 56, 57]
noncomputable def portL (l : List UInt8) : Bool := decide (1 ≤ l.length) && (decide (l.length ≤ 5) && (Go.Lib.trimS l digits == []))
theorem port_p (s : ByteArray) (hs : (os s).length ≤ 1000) : host_port.f s = some (portL (os s)) := by
  have hz := size_os s
  have ht : strings_Trim.f s ⟨#[48, 49, 50, 51, 52, 53, 54, 55, 56, 57]⟩ = some ⟨(Go.Lib.trimS (os s) digits).toArray⟩ := by
    unfold strings_Trim.f
    rw [if_pos (by omega), if_pos (by decide), if_pos (by decide)]; rfl
  unfold host_port.f portL
  by_cases c1 : 1 ≤ (os s).length
  · rw [if_pos (by omega), decide_eq_true c1]
    by_cases c2 : (os s).length ≤ 5
    · rw [if_pos (by omega), decide_eq_true c2, ht, Option.bind_some, toList_os]; rfl
    · rw [if_neg (by omega), decide_eq_false c2]; rfl
  · rw [if_neg (by omega), decide_eq_false c1]; rfl
theorem suffix_p (s p : ByteArray) (hl : s.size ≤ 9223372036854775807) : stringslite_HasSuffix.f s p = some ((os p).isSuffixOf (os s)) := by
  have hs := size_os s
  have hp := size_os p
  unfold stringslite_HasSuffix.f
  by_cases h : (s.size : Int) ≥ (p.size : Int)
  · have hw : wrap64 ((s.size : Int) - (p.size : Int)) = ((s.size - p.size : Nat) : Int) := by rw [wrap64_id (by omega) (by omega)]; omega
    rw [if_pos h, hw, if_pos (by omega), if_pos (by omega)]
    congr 1
    rw [toList_os, toList_os, os_extract, Int.toNat_natCast, Bool.eq_iff_iff, beq_iff_eq, List.isSuffixOf_iff_suffix, List.take_of_length_le (by simp)]
    rw [List.suffix_iff_eq_drop, ← hs, ← hp]
    exact eq_comm
  · rw [if_neg h]
    congr 1
    symm
    rw [Bool.eq_false_iff]
    intro hc
    have := (List.isSuffixOf_iff_suffix.1 hc).length_le
    omega
theorem trimSuffix_p (s p : ByteArray) (hs : (os s).length ≤ 1000) : ∃ t, strings_TrimSuffix.f s p = some t ∧ os t = if (os p).isSuffixOf (os s) = true then (os s).take ((os s).length - (os p).length) else os s := by
  have hz := size_os s
  have hz2 := size_os p
  unfold strings_TrimSuffix.f stringslite_TrimSuffix.f
  rw [suffix_p s p (by omega), Option.bind_some]
  cases hp : (os p).isSuffixOf (os s) with
  | true =>
    have := (List.isSuffixOf_iff_suffix.1 hp).length_le
    have hw : wrap64 ((s.size : Int) - (p.size : Int)) = ((s.size - p.size : Nat) : Int) := by rw [wrap64_id (by omega) (by omega)]; omega
    rw [if_pos rfl, if_pos rfl, hw, if_pos (by omega), if_pos (by omega), Option.bind_some, Int.toNat_natCast]
    exact ⟨_, rfl, by rw [os_extract, List.drop_zero, Nat.sub_zero, hz, hz2]⟩
  | false =>
    rw [if_neg (by decide), if_neg (by decide), Option.bind_some]
    exact ⟨_, rfl, rfl⟩
noncomputable def noPort (f : List UInt8) : List UInt8 := if (decide (0 ≤ lastN 58 f f.length) && portL (f.drop ((lastN 58 f f.length).toNat + 1))) = true then f.take (lastN 58 f f.length).toNat else f
noncomputable def noDot (g : List UInt8) : List UInt8 := if [46].isSuffixOf g = true then g.take (g.length - 1) else g
noncomputable def ofH (l : List UInt8) : List UInt8 × Int := if nm (noDot (noPort (l.map dns_Fold.b))) = true then (noDot (noPort (l.map dns_Fold.b)), 0) else ([], 2)
theorem of_j1 (x : ByteArray) (hx : (os x).length ≤ 1000) (k : Nat) : ∃ t, host_Of.j1 (k + 1) x = some (t, if nm (noDot (os x)) = true then 0 else 2) ∧ os t = if nm (noDot (os x)) = true then noDot (os x) else [] := by
  obtain ⟨t, h1, h2⟩ := trimSuffix_p x ⟨#[46]⟩ hx
  have h3 : os t = noDot (os x) := h2
  rw [host_Of.j1, h1, Option.bind_some, name_p, Option.bind_some, h3]
  cases nm (noDot (os x)) with
  | true => exact ⟨_, rfl, h3⟩
  | false => exact ⟨_, rfl, rfl⟩
theorem of_h (s : ByteArray) (hs : (os s).length ≤ 100) (k : Nat) (hk : 1010 ≤ k) : ∃ t, host_Of.f k s = some (t, (ofH (os s)).2) ∧ os t = (ofH (os s)).1 := by
  obtain ⟨k, rfl⟩ : ∃ m, k = m + 2 := ⟨k - 2, by omega⟩
  obtain ⟨F, hF⟩ : ∃ F : ByteArray, F = ⟨(nb s).toArray⟩ := ⟨_, rfl⟩
  have hF1 : os F = (os s).map dns_Fold.b := by rw [hF]; rfl
  have hF2 : (os F).length ≤ 100 := by rw [hF1, List.length_map]; exact hs
  have hz := size_os F
  have hb := lastN_bound 58 (os F) (os F).length
  have fin : ∀ x : ByteArray, (os x).length ≤ 1000 → os x = noPort (os F) → ∃ t, host_Of.j1 (k + 1) x = some (t, (ofH (os s)).2) ∧ os t = (ofH (os s)).1 := fun x hx e => by
    obtain ⟨t, h1, h2⟩ := of_j1 x hx k
    refine ⟨t, ?_, ?_⟩
    · rw [h1, e, hF1]; unfold ofH; split <;> rfl
    · rw [h2, e, hF1]; unfold ofH; split <;> rfl
  unfold host_Of.f
  rw [fold_p s (by omega), ← hF, Option.bind_some, last_p F 58 (by omega) _ (by omega), Option.bind_some]
  by_cases c : 0 ≤ lastN 58 (os F) (os F).length
  · have e1 : os (F.extract (wrap64 (lastN 58 (os F) (os F).length + 1)).toNat F.size) = (os F).drop ((lastN 58 (os F) (os F).length).toNat + 1) := by
      rw [wrap64_id (by omega) (by omega), os_extract, List.take_of_length_le (by rw [List.length_drop]; omega)]
      congr 1; omega
    rw [if_pos c, if_pos (by rw [wrap64_id (by omega) (by omega)]; omega), if_pos (by rw [wrap64_id (by omega) (by omega)]; omega), port_p _ (by rw [e1, List.length_drop]; omega), e1, Option.bind_some, host_Of.j0]
    cases hp : portL ((os F).drop ((lastN 58 (os F) (os F).length).toNat + 1)) with
    | true =>
      rw [if_pos rfl, if_pos c, if_pos (by omega)]
      refine fin _ (by rw [os_extract, List.length_take]; omega) ?_
      unfold noPort
      rw [decide_eq_true c, hp, if_pos (show (true && true) = true from rfl), os_extract, List.drop_zero, Nat.sub_zero]
    | false =>
      rw [if_neg (by decide)]
      refine fin F (by omega) ?_
      unfold noPort
      rw [hp, Bool.and_false, if_neg (by decide)]
  · rw [if_neg c, host_Of.j0, if_neg (by decide)]
    refine fin F (by omega) ?_
    unfold noPort
    rw [decide_eq_false c, Bool.false_and, if_neg (by decide)]
end Go.Proofs.YtpmllmfamjpinaaDoor.L
namespace Go.Proofs.YtpmllmfamjpinaaDoor.L
open Go Go.RowKit Go.Proofs.YtpmllmfamjpinaaDoor.P Go.Proofs.YtpmllmfamjpinaaDoorW.PrintWords Go.Proofs.YtpmllmfamjpinaaDoorW.PrintLast
theorem upTo {β : Type} {F : Nat → Option β} (hm : ∀ k, LeO (F k) (F (k + 1))) {k j : Nat} {r : β} (h : F k = some r) (hk : k ≤ j) : F j = some r := by
  obtain ⟨n, rfl⟩ : ∃ n, j = k + n := ⟨j - k, by omega⟩
  clear hk
  induction n with
  | zero => exact h
  | succ n ih => exact hm _ _ ih
theorem index_c (s : ByteArray) (c : UInt8) (k : Nat) (hk : 1 ≤ k) : stringslite_Index.f k s ⟨#[c]⟩ = some (firstIdx s c) := by
  have h := index1 s c
  unfold strings_Index.f at h
  obtain ⟨t, h1, h2⟩ := Option.bind_eq_some_iff.1 h
  rw [Option.some.inj h2] at h1
  exact upTo (F := fun k => stringslite_Index.f k s ⟨#[c]⟩) (fun k => stringslite_Index.mono _ _ k) h1 hk
theorem cut_c (s : ByteArray) (c : UInt8) (hs : s.size ≤ 100000) (k : Nat) (hk : 1 ≤ k) : ∃ a b ok, strings_Cut.f k s ⟨#[c]⟩ = some (a, b, ok) ∧ a.size ≤ s.size ∧ b.size ≤ s.size := by
  unfold strings_Cut.f stringslite_Cut.f
  rw [index_c s c k hk, Option.bind_some]
  by_cases h : firstIdx s c ≥ 0
  · have hf := firstIdx_fit c s h
    have hw : wrap64 (firstIdx s c + ((⟨#[c]⟩ : ByteArray).size : Int)) = firstIdx s c + 1 := by show wrap64 (_ + 1) = _; rw [wrap64_id (by omega) (by omega)]
    rw [if_pos h, if_pos h, if_pos (by omega), hw, if_pos (by omega), if_pos (by omega), Option.bind_some]
    exact ⟨_, _, _, rfl, by rw [ByteArray.size_extract]; omega, by rw [ByteArray.size_extract]; omega⟩
  · rw [if_neg h, Option.bind_some]; exact ⟨_, _, _, rfl, Nat.le_refl _, Nat.zero_le _⟩
theorem cuts_size (ix : ByteArray → Int) (m : Nat) : ∀ (k : Nat) (s p : ByteArray), p ∈ cuts ix m k s → p.size ≤ s.size
  | 0, s, p, h => by
    rw [List.mem_singleton.1 (show p ∈ [s] from h)]; exact Nat.le_refl _
  | k + 1, s, p, h => by
    unfold cuts at h
    split at h
    · rw [List.mem_singleton.1 h]; exact Nat.le_refl _
    · rcases List.mem_cons.1 h with rfl | h
      · rw [ByteArray.size_extract]; omega
      · have := cuts_size ix m k _ p h
        rw [ByteArray.size_extract] at this; omega
theorem digits_ : ∀ n : Fin 256, (match query_digit.f ((n : Nat) : Int) with | some d => decide (-1 ≤ d) && decide (d < 16) | none => false) = true := by decide +kernel
theorem digit_p (s : ByteArray) (j : Nat) : ∃ d : Int, query_digit.f (bt s (j : Int)) = some d ∧ -1 ≤ d ∧ d < 16 := by
  rw [bt_os]
  generalize (os s)[j]?.getD 0 = c
  have := digits_ ⟨c.toNat, c.toNat_lt⟩
  simp only at this
  cases h : query_digit.f (c.toNat : Int) with
  | none => rw [h] at this; cases this
  | some d => rw [h] at this; simp only [Bool.and_eq_true, decide_eq_true_eq] at this; exact ⟨d, rfl, this.1, this.2⟩
theorem read_loop (s : ByteArray) (hs : s.size ≤ 100000) : ∀ (n i k : Nat) (acc : List Int), s.size - i ≤ n → i ≤ s.size → acc.length ≤ i → 2 * n + 2 ≤ k → ∃ t b, query_read.l0 k s acc (i : Int) = some (t, b) ∧ t.size ≤ s.size := by
  have hsz : ∀ acc : List Int, (strOfNums acc).size = acc.length := fun acc => by rw [size_os]; show (List.map _ acc).length = _; rw [List.length_map]
  intro n
  induction n with
  | zero =>
    intro i k acc h1 h2 h3 h4
    obtain ⟨k, rfl⟩ : ∃ m, k = m + 1 := ⟨k - 1, by omega⟩
    rw [query_read.l0, if_neg (by omega)]
    exact ⟨_, _, rfl, by rw [hsz]; omega⟩
  | succ n ih =>
    intro i k acc h1 h2 h3 h4
    obtain ⟨k, rfl⟩ : ∃ m, k = m + 2 := ⟨k - 2, by omega⟩
    rw [query_read.l0]
    by_cases hi : i < s.size
    · have w1 : wrap64 ((i : Int) + 1) = ((i + 1 : Nat) : Int) := by rw [wrap64_id (by omega) (by omega)]; omega
      have w2 : wrap64 ((i : Int) + 2) = ((i + 2 : Nat) : Int) := by rw [wrap64_id (by omega) (by omega)]; omega
      have w3 : wrap64 (((i + 2 : Nat) : Int) + 1) = ((i + 3 : Nat) : Int) := by rw [wrap64_id (by omega) (by omega)]; omega
      have bad : ∃ t b, query_read.j1 (k + 1) s acc (i : Int) true = some (t, b) ∧ t.size ≤ s.size := by
        rw [query_read.j1, if_pos rfl]; exact ⟨_, _, rfl, Nat.zero_le _⟩
      rw [if_pos (by omega), if_pos (by omega)]
      by_cases c1 : bt s (i : Int) = 43
      · rw [if_pos c1, if_pos (by omega), w1]
        exact ih (i + 1) (k + 1) _ (by omega) (by omega) (by rw [List.length_append, List.length_singleton]; omega) (by omega)
      · rw [if_neg c1]
        by_cases c2 : bt s (i : Int) = 37
        · rw [if_pos c2, w2]
          by_cases c3 : ((i + 2 : Nat) : Int) ≥ (s.size : Int)
          · rw [if_pos c3]; exact bad
          · obtain ⟨d1, e1, a1, b1⟩ := digit_p s (i + 1)
            obtain ⟨d2, e2, a2, b2⟩ := digit_p s (i + 2)
            rw [if_neg c3, w1, if_pos (by omega), if_pos (by omega), e1, Option.bind_some]
            by_cases c4 : d1 < 0
            · rw [if_pos c4]; exact bad
            · rw [if_neg c4, if_pos (by omega), if_pos (by omega), e2, Option.bind_some]
              by_cases c5 : d2 < 0
              · rw [decide_eq_true c5]; exact bad
              · rw [decide_eq_false c5, query_read.j1, if_neg (by decide), w1, if_pos (by omega), if_pos (by omega), e1, Option.bind_some, w2, if_pos (by omega), if_pos (by omega), e2, Option.bind_some, if_pos (by omega), w3]
                exact ih (i + 3) k _ (by omega) (by omega) (by rw [List.length_append, List.length_singleton]; omega) (by omega)
        · rw [if_neg c2, if_pos (by omega), w1]
          exact ih (i + 1) (k + 1) _ (by omega) (by omega) (by rw [List.length_append, List.length_singleton]; omega) (by omega)
    · rw [if_neg (by omega)]
      exact ⟨_, _, rfl, by rw [hsz]; omega⟩
theorem read_t (s : ByteArray) (hs : s.size ≤ 1000) (k : Nat) (hk : 2002 ≤ k) : ∃ t b, query_read.f k s = some (t, b) ∧ t.size ≤ s.size := by
  unfold query_read.f
  rw [if_pos (by omega), if_pos (by omega)]
  exact read_loop s (by omega) s.size 0 k [] (by omega) (by omega) (Nat.le_refl _) (by omega)
theorem go_t (k : Nat) (hk : 2002 ≤ k) : ∀ (ps : List ByteArray) (acc : List PT), (∀ p ∈ ps, p.size ≤ 1000) → acc.length + ps.length ≤ 1000 → ∃ o, query_Parse.go k ps acc = some o ∧ ∀ l, o = some l → l.length ≤ 1000
  | [], acc, _, h => ⟨some acc, rfl, fun l e => by cases e; simpa using h⟩
  | p :: ps, acc, hp, h => by
    obtain ⟨a, b, c, e1, s1, s2⟩ := cut_c p 61 (by have := hp p List.mem_cons_self; omega) k (by omega)
    have hp0 := hp p List.mem_cons_self
    obtain ⟨t1, g1, e2, _⟩ := read_t a (by omega) k hk
    obtain ⟨t2, g2, e3, _⟩ := read_t b (by omega) k hk
    simp only [query_Parse.go, e1, e2, e3, Option.bind_some]
    rw [List.length_cons] at h
    cases g1 with
    | false => exact ⟨none, by rw [if_neg (by decide)], fun l e => by cases e⟩
    | true =>
      cases g2 with
      | false => exact ⟨none, by rw [if_pos rfl, if_neg (by decide)], fun l e => by cases e⟩
      | true =>
        rw [if_pos rfl, if_pos rfl, if_pos (by omega)]
        exact go_t k hk ps _ (fun q hq => hp q (List.mem_cons_of_mem _ hq)) (by rw [List.length_append, List.length_singleton]; omega)
theorem parse_q (s : ByteArray) (hs : s.size ≤ 999) (k : Nat) (hk : 2002 ≤ k) : ∃ l e, query_Parse.f k s = some (l, e) ∧ l.length ≤ 1000 := by
  unfold query_Parse.f
  by_cases h : s.toList = ([] : List UInt8)
  · rw [if_pos h]; exact ⟨_, _, rfl, Nat.zero_le _⟩
  · have hl : (pieces 38 s).length ≤ s.size + 1 := cuts_length _ _ _ _
    obtain ⟨o, e, ho⟩ := go_t k hk (pieces 38 s) [] (fun p hp => by have := cuts_size _ _ _ _ p hp; omega) (by simp; omega)
    rw [if_neg h, if_pos (by omega), e, Option.bind_some]
    cases o with
    | none => exact ⟨_, _, rfl, Nat.zero_le _⟩
    | some l =>
      have hl2 := ho l rfl
      simp only [query_Parse.end_, q_p l hl2 k (by omega), Option.bind_some]
      cases isQ l with
      | true => exact ⟨_, _, by rw [if_pos rfl], hl2⟩
      | false => exact ⟨_, _, by rw [if_neg (by decide)], Nat.zero_le _⟩
theorem first_t (s : ByteArray) (hs : s.size ≤ 999) (k : Nat) (hk : 2010 ≤ k) : ∃ r1 r2 r3 r4 r6, head_first.f k s = some (r1, r2, r3, r4, [], r6) ∧ r4.length ≤ 1000 := by
  obtain ⟨k, rfl⟩ : ∃ m, k = m + 1 := ⟨k - 1, by omega⟩
  obtain ⟨a, b, c, e1, s1, s2⟩ := cut_c s 32 (by omega) (k + 1) (by omega)
  obtain ⟨a2, b2, c2, e2, s3, s4⟩ := cut_c b 32 (by omega) (k + 1) (by omega)
  have bad : ∀ x y, ∃ r1 r2 r3 r4 r6, head_first.j0 (k + 1) x y true ⟨#[]⟩ ⟨#[]⟩ ⟨#[]⟩ = some (r1, r2, r3, r4, [], r6) ∧ r4.length ≤ 1000 := fun x y => by
    rw [head_first.j0, if_pos rfl]; exact ⟨_, _, _, _, _, rfl, Nat.zero_le _⟩
  unfold head_first.f
  rw [e1, Option.bind_some, e2, Option.bind_some]
  by_cases h : b2.toList = ([72, 84, 84, 80, 47, 49, 46, 49] : List UInt8)
  · rw [if_pos h, meth_p, Option.bind_some]
    cases hm : isMeth (os a) with
    | false => exact bad _ _
    | true =>
      obtain ⟨a3, b3, c3, e3, s5, s6⟩ := cut_c a2 63 (by omega) k (by omega)
      obtain ⟨l, e, e4, hl⟩ := parse_q b3 (by omega) k (by omega)
      rw [Bool.not_true, head_first.j0, if_neg (by decide), e3, Option.bind_some, e4, Option.bind_some]
      by_cases h1 : e = 0
      · rw [if_pos h1, path_is, Option.bind_some]
        cases isPath (os a3) with
        | false => rw [if_neg (by decide)]; exact ⟨_, _, _, _, _, rfl, Nat.zero_le _⟩
        | true =>
          rw [if_pos rfl]
          cases c3 with
          | false => rw [if_neg Bool.false_ne_true]; exact ⟨_, _, _, _, _, rfl, hl⟩
          | true =>
            rw [if_pos rfl]
            by_cases h2 : b3.toList = ([] : List UInt8)
            · rw [if_pos h2]; exact ⟨_, _, _, _, _, rfl, Nat.zero_le _⟩
            · rw [if_neg h2]; exact ⟨_, _, _, _, _, rfl, hl⟩
      · rw [if_neg h1]; exact ⟨_, _, _, _, _, rfl, Nat.zero_le _⟩
  · rw [if_neg h]; exact bad _ _
theorem dropWhile_le {α : Type} (p : α → Bool) (l : List α) : (l.dropWhile p).length ≤ l.length := (List.dropWhile_sublist p).length_le
theorem trim_t (s : ByteArray) (hs : s.size ≤ 100000) : ∃ t, strings_Trim.f s ⟨#[32]⟩ = some t ∧ (os t).length ≤ (os s).length := by
  unfold strings_Trim.f
  rw [if_pos (by omega), if_pos (by decide), if_pos (by decide)]
  refine ⟨_, rfl, ?_⟩
  rw [os_mk]
  unfold Go.Lib.trimS Go.Lib.trimLeftS Go.Lib.trimRightS
  refine Nat.le_trans (dropWhile_le _ _) ?_
  rw [List.length_reverse]
  refine Nat.le_trans (dropWhile_le _ _) ?_
  rw [List.length_reverse]
  exact Nat.le_refl _
theorem val_loop (s : ByteArray) (hs : s.size ≤ 1000) : ∀ (n i k : Nat), s.size - i ≤ n → i ≤ s.size → n + 1 ≤ k → ∃ b, pairs_Value.l0 k s (s.size : Int) (i : Int) = some b ∧ (b = true → s.size ≤ 40) := by
  obtain ⟨t, ht, _⟩ := trim_t s (by omega)
  have hend : ∀ k i, ¬ (i : Int) < (s.size : Int) → ∃ b, pairs_Value.l0 (k + 1) s (s.size : Int) i = some b ∧ (b = true → s.size ≤ 40) := fun k i hi => by
    rw [pairs_Value.l0, if_neg hi]
    by_cases h : (s.size : Int) ≤ 40
    · rw [if_pos h, ht, Option.bind_some]; exact ⟨_, rfl, fun _ => by omega⟩
    · rw [if_neg h]; exact ⟨_, rfl, fun e => by cases e⟩
  intro n
  induction n with
  | zero =>
    intro i k h1 h2 h3
    obtain ⟨k, rfl⟩ : ∃ m, k = m + 1 := ⟨k - 1, by omega⟩
    exact hend k _ (by omega)
  | succ n ih =>
    intro i k h1 h2 h3
    obtain ⟨k, rfl⟩ : ∃ m, k = m + 1 := ⟨k - 1, by omega⟩
    by_cases hi : i < s.size
    · rw [pairs_Value.l0, if_pos (by omega), if_pos (by omega), if_pos (by omega), wrap64_id (by omega) (by omega), show (i : Int) + 1 = ((i + 1 : Nat) : Int) by omega]
      obtain ⟨b, e, h⟩ := ih (i + 1) k (by omega) (by omega) (by omega)
      split
      · exact ⟨_, rfl, fun e => by cases e⟩
      · split
        · exact ⟨_, rfl, fun e => by cases e⟩
        · exact ⟨b, e, h⟩
    · exact hend k _ (by omega)
theorem val_t (s : ByteArray) (hs : s.size ≤ 1000) (k : Nat) (hk : 1002 ≤ k) : ∃ b, pairs_Value.f k s = some b ∧ (b = true → s.size ≤ 40) := val_loop s hs s.size 0 k (by omega) (by omega) (by omega)
theorem field_t (s : ByteArray) (hs : s.size ≤ 999) (k : Nat) (hk : 2010 ≤ k) : ∃ a b ok, head_field.f k s = some (a, b, ok) ∧ (ok = true → a.size ≤ 40 ∧ b.size ≤ 40) := by
  obtain ⟨a, b, c, e1, s1, s2⟩ := cut_c s 58 (by omega) k (by omega)
  obtain ⟨t, e2, h2⟩ := trim_t b (by omega)
  have z1 := size_os a
  have z2 := size_os b
  have z3 := size_os t
  unfold head_field.f
  rw [e1, Option.bind_some, e2, Option.bind_some]
  cases c with
  | false => rw [if_neg Bool.false_ne_true]; exact ⟨a, t, false, rfl, fun e => by cases e⟩
  | true =>
    rw [if_pos rfl, tok_p a (by omega) k (by omega), Option.bind_some]
    cases h : isTok (os a) with
    | false => rw [if_neg (by decide)]; exact ⟨_, _, _, rfl, fun e => by cases e⟩
    | true =>
      obtain ⟨v, e3, h3⟩ := val_t t (by omega) k (by omega)
      rw [if_pos rfl, e3, Option.bind_some]
      refine ⟨a, t, v, rfl, fun e => ⟨?_, h3 e⟩⟩
      unfold isTok at h
      simp only [Bool.and_eq_true, decide_eq_true_eq] at h
      omega
theorem all_loop2 (n : ByteArray) (hn : (os n).length ≤ 100) (l : List PT) (hl : Small 1000 l) : ∀ (c i k : Nat) (acc : List ByteArray), l.length - i ≤ c → i ≤ l.length → acc.length ≤ 1000 + i → c + 1 ≤ k → pairs_All.l0 k n acc l (l.length : Int) (i : Int) = some (acc ++ allL n (l.drop i)) := by
  have hl1 := hl.1
  intro c
  induction c with
  | zero =>
    intro i k acc h1 h2 h3 h4
    obtain ⟨k, rfl⟩ : ∃ m, k = m + 1 := ⟨k - 1, by omega⟩
    rw [pairs_All.l0, if_neg (by omega), List.drop_eq_nil_of_le (by omega)]; simp [allL]
  | succ c ih =>
    intro i k acc h1 h2 h3 h4
    obtain ⟨k, rfl⟩ : ∃ m, k = m + 1 := ⟨k - 1, by omega⟩
    rw [pairs_All.l0]
    by_cases hi : i < l.length
    · have hx := (hl.2 _ (List.getElem_mem hi))
      rw [if_pos (by omega), if_pos (by omega), if_pos (by omega), rd_at l i hi, same_p _ _ (by omega) (by omega), Option.bind_some, List.drop_eq_getElem_cons hi, allL, List.filter_cons, wrapS (by omega)]
      cases hq : eqN (l[i]'hi).f0 n with
      | true =>
        rw [if_pos rfl, if_pos (by omega), ih (i + 1) k _ (by omega) (by omega) (by rw [List.length_append, List.length_singleton]; omega) (by omega), List.append_assoc]; rfl
      | false =>
        rw [if_neg (by decide), ih (i + 1) k acc (by omega) (by omega) (by omega) (by omega)]; rfl
    · rw [if_neg (by omega), List.drop_eq_nil_of_le (by omega)]; simp [allL]
theorem asked_t (l : List PT) (hl : Small 1000 l) (k : Nat) (hk : 1100 ≤ k) : ∃ h ok, head_asked.f k l = some (h, ok) := by
  have ha := all_loop2 ⟨#[104, 111, 115, 116]⟩ (by decide) l hl l.length 0 k [] (by omega) (by omega) (by simp) (by have := hl.1; omega)
  unfold head_asked.f pairs_All.f
  rw [show (0 : Int) = ((0 : Nat) : Int) from rfl, ha, Option.bind_some, List.nil_append, List.drop_zero]
  by_cases h : ((allL ⟨#[104, 111, 115, 116]⟩ l).length : Int) = 1
  · rw [if_pos h, if_pos (by omega)]
    obtain ⟨x, hx⟩ : ∃ x, allL ⟨#[104, 111, 115, 116]⟩ l = [x] := List.length_eq_one_iff.1 (by omega)
    have hm : x ∈ allL ⟨#[104, 111, 115, 116]⟩ l := by rw [hx]; exact List.mem_singleton.2 rfl
    obtain ⟨y, hy, rfl⟩ := List.mem_map.1 hm
    obtain ⟨t, e, _⟩ := of_h y.f1 (hl.2 y (List.mem_filter.1 hy).1).2 k (by omega)
    rw [hx, show rdOf ByteArray.empty [y.f1] ((0 : Nat) : Int) = y.f1 from rfl, e, Option.bind_some]
    exact ⟨_, _, rfl⟩
  · rw [if_neg h]; exact ⟨_, _, rfl⟩
theorem rgo_t (k : Nat) (hk : 2010 ≤ k) : ∀ (ps : List ByteArray) (st : Option (ByteArray × ByteArray × ByteArray × List PT × List PT)), (∀ p ∈ ps, p.size ≤ 999) → (∀ s, st = some s → s.2.2.2.1.length ≤ 1000 ∧ Small 1000 s.2.2.2.2 ∧ s.2.2.2.2.length + ps.length ≤ 1000) → (st = none → ps.length ≤ 1000) →
    ∃ o, head_read.go k ps st = some o ∧ (∀ s, o = some (some s) → s.2.2.2.1.length ≤ 1000 ∧ Small 1000 s.2.2.2.2) ∧ (o = some none → ps = [] ∧ st = none)
  | [], st, _, h, _ => ⟨some st, rfl, fun s e => by cases e; exact ⟨(h s rfl).1, (h s rfl).2.1⟩, fun e => ⟨rfl, by cases e; rfl⟩⟩
  | p :: ps, none, hp, _, hn => by
    obtain ⟨r1, r2, r3, r4, r6, e, hl⟩ := first_t p (hp p List.mem_cons_self) k hk
    have hn2 := hn rfl
    rw [List.length_cons] at hn2
    simp only [head_read.go, e, Option.bind_some]
    cases r6 with
    | false => exact ⟨none, by rw [if_neg (by decide)], (fun s e => by cases e), fun e => by cases e⟩
    | true =>
      rw [if_pos rfl]
      obtain ⟨o, h1, h2, h3⟩ := rgo_t k hk ps (some (r1, r2, r3, r4, [])) (fun q hq => hp q (List.mem_cons_of_mem _ hq)) (fun s e => by cases e; exact ⟨hl, ⟨Nat.zero_le _, fun x hx => by cases hx⟩, by show 0 + ps.length ≤ 1000; omega⟩) (fun e => by cases e)
      exact ⟨o, h1, h2, fun e => by cases (h3 e).2⟩
  | p :: ps, some s, hp, h, _ => by
    obtain ⟨a, b, ok, e, hb⟩ := field_t p (hp p List.mem_cons_self) k hk
    obtain ⟨q1, q2, q3⟩ := h s rfl
    rw [List.length_cons] at q3
    simp only [head_read.go, e, Option.bind_some]
    cases ok with
    | false => exact ⟨none, by rw [if_neg (by decide)], (fun s e => by cases e), fun e => by cases e⟩
    | true =>
      have hb2 := hb rfl
      rw [if_pos rfl, if_pos (by omega)]
      obtain ⟨o, h1, h2, h3⟩ := rgo_t k hk ps (some (s.1, s.2.1, s.2.2.1, s.2.2.2.1, s.2.2.2.2 ++ [⟨a, b⟩])) (fun q hq => hp q (List.mem_cons_of_mem _ hq)) (fun s2 e => by
        cases e
        refine ⟨q1, ⟨by show (s.2.2.2.2 ++ [_]).length ≤ 1000; rw [List.length_append, List.length_singleton]; omega, fun x hx => ?_⟩, by show (s.2.2.2.2 ++ [_]).length + ps.length ≤ 1000; rw [List.length_append, List.length_singleton]; omega⟩
        rcases List.mem_append.1 hx with hx | hx
        · exact q2.2 x hx
        · rw [List.mem_singleton.1 hx]
          have z1 := size_os a
          have z2 := size_os b
          exact ⟨by show (os a).length ≤ 100; omega, by show (os b).length ≤ 100; omega⟩) (fun e => by cases e)
      exact ⟨o, h1, h2, fun e => by cases (h3 e).2⟩
theorem cuts_ne (ix : ByteArray → Int) (m : Nat) : ∀ (k : Nat) (s : ByteArray), cuts ix m k s ≠ []
  | 0, s => by unfold cuts; simp
  | k + 1, s => by unfold cuts; split <;> simp
theorem read_h (s : ByteArray) (hs : s.size ≤ 998) (k : Nat) (hk : 2010 ≤ k) : ∃ r1 r2 r3 r4 r5 r6, head_read.f k s = some (r1, r2, r3, r4, r5, r6) ∧ r4.length ≤ 1000 ∧ r5.length ≤ 1000 := by
  have hl : (piecesM ⟨#[13, 10]⟩ s).length ≤ s.size + 1 := cuts_length _ _ _ _
  obtain ⟨o, e, h1, h2⟩ := rgo_t k hk (piecesM ⟨#[13, 10]⟩ s) none (fun p hp => by have := cuts_size _ _ _ _ p hp; omega) (fun s e => by cases e) (fun _ => by omega)
  unfold head_read.f
  rw [if_pos (by omega), e, Option.bind_some]
  rcases o with _ | _ | st
  · exact ⟨_, _, _, _, _, _, rfl, Nat.zero_le _, Nat.zero_le _⟩
  · exact absurd (h2 rfl).1 (cuts_ne _ _ _ _)
  · obtain ⟨q1, q2⟩ := h1 st rfl
    obtain ⟨h, ok, ea⟩ := asked_t st.2.2.2.2 q2 k (by omega)
    simp only [head_read.end_, ea, Option.bind_some]
    cases ok with
    | false => rw [if_neg (by decide)]; exact ⟨_, _, _, _, _, _, rfl, Nat.zero_le _, Nat.zero_le _⟩
    | true =>
      rw [if_pos rfl]
      by_cases h30 : st.2.2.2.2.length ≤ 30
      · rw [if_pos h30]; exact ⟨_, _, _, _, _, _, rfl, q1, q2.1⟩
      · rw [if_neg h30]; exact ⟨_, _, _, _, _, _, rfl, Nat.zero_le _, Nat.zero_le _⟩
noncomputable def iE (s : ByteArray) : Int := Go.Lib.index ((os s).take 1000) [13, 10, 13, 10]
theorem parse_eq (s : ByteArray) (hs : s.size ≤ 100000) (k : Nat) : head_Parse.f (k + 1) s = if iE s < 0 then some (⟨#[]⟩, ⟨#[]⟩, ⟨#[]⟩, [], [], 0, if s.size ≥ 1000 then 5 else 8) else
    (head_read.f k (s.extract 0 (iE s).toNat)).bind fun r => if r.2.2.2.2.2 = true then some (r.1, r.2.1, r.2.2.1, r.2.2.2.1, r.2.2.2.2.1, iE s + 4, 0) else some (⟨#[]⟩, ⟨#[]⟩, ⟨#[]⟩, [], [], 0, 2) := by
  have hz := size_os s
  have hmn : 0 ≤ mn (s.size : Int) 1000 ∧ mn (s.size : Int) 1000 ≤ (s.size : Int) := by unfold mn; constructor <;> split <;> omega
  have hz2 : (s.extract 0 (mn (s.size : Int) 1000 : Int).toNat).size < 4294967281 := by rw [ByteArray.size_extract]; omega
  have hi : Go.Lib.index (s.extract 0 (mn (s.size : Int) 1000 : Int).toNat).data.toList (⟨#[13, 10, 13, 10]⟩ : ByteArray).data.toList = iE s := by
    unfold iE
    have e : (s.extract 0 (mn (s.size : Int) 1000 : Int).toNat).data.toList = (os s).take 1000 := by
      refine (os_extract s 0 _).trans ?_
      rw [List.drop_zero, Nat.sub_zero]
      unfold mn
      split
      · rfl
      · rw [Int.toNat_natCast, List.take_of_length_le (by omega), List.take_of_length_le (by omega)]
    rw [e]
  have hge := Go.Lib.index_ge ((os s).take 1000) [13, 10, 13, 10]
  unfold head_Parse.f strings_IndexM.f
  rw [if_pos hmn.1, if_pos hmn.2, if_pos hz2, Option.bind_some, hi]
  by_cases c : iE s < 0
  · rw [if_pos c, if_pos c, head_Parse.j0]
    by_cases d : (s.size : Int) ≥ 1000
    · rw [decide_eq_true d, if_pos rfl, if_pos (show s.size ≥ 1000 by omega)]
    · rw [decide_eq_false d, if_neg (by decide), if_pos c, if_neg (show ¬ s.size ≥ 1000 by omega)]
  · have hr : (iE s).toNat ≤ (os s).length := by
      rcases Go.Lib.indexB_cases ⟨((os s).take 1000).toArray⟩ ⟨#[13, 10, 13, 10]⟩ with q | ⟨i, q, hq⟩
      · exact absurd (show iE s = -1 from q) (by omega)
      · have : iE s = (i : Int) := q
        have z : (⟨((os s).take 1000).toArray⟩ : ByteArray).size ≤ (os s).length := by rw [size_os, os_mk, List.length_take]; omega
        omega
    rw [if_neg c, if_neg c, head_Parse.j0, if_neg (by decide), if_neg c, if_pos (by omega), if_pos (by omega), wrap64_id (by omega) (by omega)]
theorem iE_at {s : ByteArray} {i : Nat} (h : iE s = (i : Int)) : i + 4 ≤ (os s).length ∧ i + 4 ≤ 1000 ∧ Go.Lib.occAt ((os s).take 1000) [13, 10, 13, 10] i = true ∧ ∀ j, j < i → Go.Lib.occAt ((os s).take 1000) [13, 10, 13, 10] j = false := by
  have hno : ∀ n, n ≤ i → Go.Lib.NoOcc ((os s).take 1000) [13, 10, 13, 10] n := by
    intro n
    induction n with
    | zero => exact fun _ => Go.Lib.NoOcc.zero _ _
    | succ n ih =>
      intro hn
      refine (ih (by omega)).succ ?_
      cases hc : Go.Lib.occAt ((os s).take 1000) [13, 10, 13, 10] n with
      | false => rfl
      | true =>
        exfalso
        have hroom := (Go.Lib.occAt_room hc).resolve_right (by simp)
        have := Go.Lib.index_hit (ih (by omega)) (by omega) hc
        have e : iE s = (n : Int) := this
        omega
  rcases Go.Lib.indexB_cases ⟨((os s).take 1000).toArray⟩ ⟨#[13, 10, 13, 10]⟩ with q | ⟨j, q, hq⟩
  · exact absurd (show iE s = -1 from q) (by omega)
  · have e : iE s = (j : Int) := q
    obtain rfl : j = i := by omega
    have z : (⟨((os s).take 1000).toArray⟩ : ByteArray).size = min 1000 (os s).length := by rw [size_os, os_mk, List.length_take]
    have z4 : (⟨#[13, 10, 13, 10]⟩ : ByteArray).size = 4 := rfl
    rw [z, z4] at hq
    refine ⟨by omega, by omega, ?_, fun m hm => hno j (Nat.le_refl _) m hm⟩
    cases hc : Go.Lib.occAt ((os s).take 1000) [13, 10, 13, 10] j with
    | true => rfl
    | false =>
      exfalso
      have hno2 := (hno j (Nat.le_refl _)).succ hc
      have := Go.Lib.index_drop hno2 (by rw [List.length_take]; omega)
      have e2 : iE s = _ := this
      rw [e] at e2
      have hge := Go.Lib.index_ge (((os s).take 1000).drop (j + 1)) [13, 10, 13, 10]
      split at e2
      · omega
      · next hne =>
        have : ¬ Go.Lib.index (((os s).take 1000).drop (j + 1)) [13, 10, 13, 10] = -1 := fun h => hne (beq_iff_eq.2 h)
        omega
theorem same_loop1 (m h p : ByteArray) (q l : List PT) (hl : l.length ≤ 1000) : ∀ (n i k : Nat), l.length - i ≤ n → i ≤ l.length → n + 1 ≤ k → tollref07_SameAsk.l1 k (i : Int) m h p q l m h p q l = some true := by
  intro n
  induction n with
  | zero =>
    intro i k h1 h2 h3
    obtain ⟨k, rfl⟩ : ∃ m, k = m + 1 := ⟨k - 1, by omega⟩
    rw [tollref07_SameAsk.l1, if_neg (by omega)]
  | succ n ih =>
    intro i k h1 h2 h3
    obtain ⟨k, rfl⟩ : ∃ m, k = m + 1 := ⟨k - 1, by omega⟩
    rw [tollref07_SameAsk.l1]
    by_cases hi : i < l.length
    · rw [if_pos (by omega), if_pos (by omega), if_pos (by omega), if_neg (by simp), wrapS (by omega)]
      exact ih (i + 1) k (by omega) (by omega) (by omega)
    · rw [if_neg (by omega)]
theorem same_loop0 (m h p : ByteArray) (q l : List PT) (hq : q.length ≤ 1000) (hl : l.length ≤ 1000) : ∀ (n i k : Nat), q.length - i ≤ n → i ≤ q.length → n + 1003 ≤ k → tollref07_SameAsk.l0 k (i : Int) m h p q l m h p q l = some true := by
  intro n
  induction n with
  | zero =>
    intro i k h1 h2 h3
    obtain ⟨k, rfl⟩ : ∃ m, k = m + 1 := ⟨k - 1, by omega⟩
    rw [tollref07_SameAsk.l0, if_neg (by omega)]
    exact same_loop1 m h p q l hl l.length 0 k (by omega) (by omega) (by omega)
  | succ n ih =>
    intro i k h1 h2 h3
    obtain ⟨k, rfl⟩ : ∃ m, k = m + 1 := ⟨k - 1, by omega⟩
    rw [tollref07_SameAsk.l0]
    by_cases hi : i < q.length
    · rw [if_pos (by omega), if_pos (by omega), if_pos (by omega), if_neg (by simp), wrapS (by omega)]
      exact ih (i + 1) k (by omega) (by omega) (by omega)
    · rw [if_neg (by omega)]
      exact same_loop1 m h p q l hl l.length 0 k (by omega) (by omega) (by omega)
theorem same_ask (m h p : ByteArray) (q l : List PT) (hq : q.length ≤ 1000) (hl : l.length ≤ 1000) (k : Nat) (hk : 2010 ≤ k) : tollref07_SameAsk.f k m h p q l m h p q l = some true := by
  obtain ⟨k, rfl⟩ : ∃ m, k = m + 1 := ⟨k - 1, by omega⟩
  unfold tollref07_SameAsk.f
  rw [if_pos rfl, if_pos rfl, if_pos rfl, if_pos rfl, tollref07_SameAsk.j0, if_neg (by simp)]
  exact same_loop0 m h p q l hq hl q.length 0 k (by omega) (by omega) (by omega)
set_option maxRecDepth 100000 in
theorem head_awake0 : tolllaw18_awake.f 300 = some true := by decide +kernel
theorem head_awake (k : Nat) (hk : 300 ≤ k) : tolllaw18_awake.f k = some true := upTo (F := fun k => tolllaw18_awake.f k) (fun k => tolllaw18_awake.mono k) head_awake0 hk
end Go.Proofs.YtpmllmfamjpinaaDoor.L
namespace Go.Proofs.YtpmllmfamjpinaaDoor.L
open Go Go.RowKit Go.Proofs.YtpmllmfamjpinaaDoor.P Go.Proofs.YtpmllmfamjpinaaDoorW.PrintWords Go.Proofs.YtpmllmfamjpinaaDoorW.PrintLast
theorem plains_ : ∀ n : Fin 256, (match query_Plain.f 3 ((n : Nat) : Int) with | some b => !b || (decide ((n : Nat) ≠ 37) && decide ((n : Nat) ≠ 43)) | none => false) = true := by decide +kernel
theorem plain_p (c : UInt8) (k : Nat) (hk : 3 ≤ k) : ∃ b, query_Plain.f k c.toNat = some b ∧ (b = true → c.toNat ≠ 37 ∧ c.toNat ≠ 43) := by
  have h := plains_ ⟨c.toNat, c.toNat_lt⟩
  cases hq : query_Plain.f 3 ((c.toNat : Nat) : Int) with
  | none => rw [show (((⟨c.toNat, c.toNat_lt⟩ : Fin 256) : Nat) : Int) = (c.toNat : Int) from rfl, hq] at h; cases h
  | some b =>
    rw [show (((⟨c.toNat, c.toNat_lt⟩ : Fin 256) : Nat) : Int) = (c.toNat : Int) from rfl, hq] at h
    refine ⟨b, upTo (F := fun k => query_Plain.f k c.toNat) (fun k => query_Plain.mono _ k) hq hk, fun hb => ?_⟩
    subst hb
    simpa using h
theorem hexes_ : ∀ n : Fin 16, query_digit.f ((query_written.x n).toNat : Int) = some ((n : Nat) : Int) := by decide +kernel
theorem hex_p (n : Nat) (h : n < 16) : query_digit.f ((query_written.x n).toNat : Int) = some (n : Int) := hexes_ ⟨n, h⟩
theorem byte_or : ∀ c : Fin 256, (Go.bits .or .i64 (wrap64 (((c.val / 16 : Nat) : Int) * 16)) ((c.val % 16 : Nat) : Int)) % 256 = (c.val : Int) := by decide +kernel
theorem bt_drop {s : ByteArray} {i : Nat} {c : UInt8} {t : List UInt8} (h : s.data.toList.drop i = c :: t) : i < s.size ∧ bt s (i : Int) = (c.toNat : Int) ∧ s.data.toList.drop (i + 1) = t := by
  have hz : s.data.toList.length = s.size := Array.length_toList
  have hi : i < s.size := by
    rw [← hz]
    rcases Nat.lt_or_ge i s.data.toList.length with h1 | h1
    · exact h1
    · rw [List.drop_of_length_le h1] at h; cases h
  have hg : s.data.toList[i]? = some c := by rw [← List.head?_drop, h]; rfl
  have hc : s[i]'hi = c := by
    rw [Array.getElem?_toList] at hg
    exact Option.some.inj ((Array.getElem?_eq_getElem hi).symm.trans hg)
  refine ⟨hi, ?_, ?_⟩
  · rw [← bt_at s (i : Int) (by rw [Int.toNat_natCast]; exact hi)]
    simp only [Int.toNat_natCast, hc]
  · rw [← List.drop_drop, show 1 = 0 + 1 from rfl, h]; rfl
theorem read_pct (s : ByteArray) (hs : s.size ≤ 1000000) (i k : Nat) (acc : List Int) (x y : Int) (hx : 0 ≤ x) (hy : 0 ≤ y) (hi : i + 2 < s.size) (ha : acc.length ≤ 1000000) (e0 : bt s (i : Int) = 37) (e1 : query_digit.f (bt s ((i + 1 : Nat) : Int)) = some x) (e2 : query_digit.f (bt s ((i + 2 : Nat) : Int)) = some y) :
    query_read.l0 (k + 2) s acc (i : Int) = query_read.l0 k s (acc ++ [(Go.bits .or .i64 (wrap64 (x * 16)) y) % 256]) ((i + 3 : Nat) : Int) := by
  have w1 : wrap64 ((i : Int) + 1) = ((i + 1 : Nat) : Int) := by rw [wrap64_id (by omega) (by omega)]; omega
  have w2 : wrap64 ((i : Int) + 2) = ((i + 2 : Nat) : Int) := by rw [wrap64_id (by omega) (by omega)]; omega
  have w3 : wrap64 (((i + 2 : Nat) : Int) + 1) = ((i + 3 : Nat) : Int) := by rw [wrap64_id (by omega) (by omega)]; omega
  rw [query_read.l0, if_pos (by omega), if_pos (by omega), if_neg (by omega), if_pos e0, w2, if_neg (by omega), w1, if_pos (by omega), if_pos (by omega), e1, Option.bind_some, if_neg (by omega), if_pos (by omega), if_pos (by omega), e2, Option.bind_some, decide_eq_false (by omega)]
  rw [query_read.j1, if_neg (by decide), w1, if_pos (by omega), if_pos (by omega), e1, Option.bind_some, w2, if_pos (by omega), if_pos (by omega), e2, Option.bind_some, if_pos (by omega), w3]
theorem read_enc (s : ByteArray) (hs : s.size ≤ 1000000) (kk : Nat) (hkk : 3 ≤ kk) : ∀ (r y : List UInt8), query_written.g kk r = some y → ∀ (i : Nat) (acc : List Int) (k : Nat), s.data.toList.drop i = y → acc.length + r.length ≤ 1000000 → 2 * r.length + 1 ≤ k → query_read.l0 k s acc (i : Int) = some (strOfNums (acc ++ r.map (fun c => (c.toNat : Int))), true) := by
  intro r
  induction r with
  | nil =>
    intro y hy i acc k hd ha hk
    rw [query_written.g] at hy
    obtain rfl := Option.some.inj hy
    have hi : s.size ≤ i := by
      have := List.drop_eq_nil_iff.1 hd
      rwa [Array.length_toList] at this
    obtain ⟨k, rfl⟩ : ∃ j, k = j + 1 := ⟨k - 1, by omega⟩
    rw [query_read.l0, if_neg (by omega), List.map_nil, List.append_nil]
  | cons c r ih =>
    intro y hy i acc k hd ha hk
    rw [query_written.g] at hy
    obtain ⟨x, hx, hy⟩ := Option.bind_eq_some_iff.1 hy
    obtain ⟨y', hy', hy⟩ := Option.bind_eq_some_iff.1 hy
    obtain rfl := Option.some.inj hy
    rw [List.length_cons] at ha hk
    obtain ⟨k, rfl⟩ : ∃ j, k = j + 1 := ⟨k - 1, by omega⟩
    obtain ⟨b, hb, hp⟩ := plain_p c kk hkk
    rw [query_written.o, hb, Option.bind_some] at hx
    cases b with
    | true =>
      rw [if_pos rfl] at hx
      obtain rfl := Option.some.inj hx
      obtain ⟨h1, h2, h3⟩ := bt_drop (show s.data.toList.drop i = c :: y' from hd)
      obtain ⟨n1, n2⟩ := hp rfl
      rw [query_read.l0, if_pos (by omega), if_pos (by omega), h2, if_neg (by omega), if_neg (by omega), if_pos (by omega), wrap64_id (by omega) (by omega), show (i : Int) + 1 = ((i + 1 : Nat) : Int) by omega]
      rw [ih y' hy' (i + 1) _ k h3 (by rw [List.length_append, List.length_singleton]; omega) (by omega), List.map_cons, List.append_assoc]; rfl
    | false =>
      rw [if_neg (by decide)] at hx
      split at hx
      · next h32 =>
        obtain rfl := Option.some.inj hx
        obtain ⟨h1, h2, h3⟩ := bt_drop (show s.data.toList.drop i = 43 :: y' from hd)
        rw [query_read.l0, if_pos (by omega), if_pos (by omega), h2, if_pos (by decide), if_pos (by omega), wrap64_id (by omega) (by omega), show (i : Int) + 1 = ((i + 1 : Nat) : Int) by omega]
        rw [ih y' hy' (i + 1) _ k h3 (by rw [List.length_append, List.length_singleton]; omega) (by omega), List.map_cons, List.append_assoc, h32]; rfl
      · obtain rfl := Option.some.inj hx
        have hc := c.toNat_lt
        obtain ⟨h1, h2, h3⟩ := bt_drop (show s.data.toList.drop i = 37 :: (query_written.x (c.toNat / 16) :: query_written.x (c.toNat % 16) :: y') from hd)
        obtain ⟨h4, h5, h6⟩ := bt_drop h3
        obtain ⟨h7, h8, h9⟩ := bt_drop h6
        have d1 := hex_p (c.toNat / 16) (by omega)
        have d2 := hex_p (c.toNat % 16) (by omega)
        have hb : (Go.bits .or .i64 (wrap64 (((c.toNat / 16 : Nat) : Int) * 16)) ((c.toNat % 16 : Nat) : Int)) % 256 = (c.toNat : Int) := byte_or ⟨c.toNat, hc⟩
        rw [← h5] at d1
        rw [← h8] at d2
        obtain ⟨k, rfl⟩ : ∃ j, k = j + 1 := ⟨k - 1, by omega⟩
        rw [show k + 1 + 1 = k + 2 from rfl, read_pct s hs i k acc _ _ (Int.natCast_nonneg _) (Int.natCast_nonneg _) (by omega) (by omega) h2 d1 d2, hb]
        rw [ih y' hy' (i + 3) _ k h9 (by rw [List.length_append, List.length_singleton]; omega) (by omega), List.map_cons, List.append_assoc]; rfl
end Go.Proofs.YtpmllmfamjpinaaDoor.L
namespace Go.Proofs.YtpmllmfamjpinaaDoor.L
open Go Go.RowKit Go.Proofs.YtpmllmfamjpinaaDoor.P Go.Proofs.YtpmllmfamjpinaaDoorW.PrintWords Go.Proofs.YtpmllmfamjpinaaDoorW.PrintLast
theorem size_mk (l : List UInt8) : (⟨l.toArray⟩ : ByteArray).size = l.length := size_os _
theorem first_c {s : ByteArray} {c : UInt8} {a b : List UInt8} (h : os s = a ++ c :: b) (ha : c ∉ a) : firstIdx s c = (a.length : Int) := by
  rcases firstIdx_two s c with ⟨_, h2⟩ | ⟨i, h1, h2, h3, h4⟩
  · exact absurd (by rw [h]; simp) h2
  · rw [h1]
    congr 1
    rcases Nat.lt_trichotomy i a.length with h5 | h5 | h5
    · exfalso
      refine ha ?_
      have h6 : (os s)[i]? = a[i]? := by rw [h, List.getElem?_append_left h5]
      rw [List.getElem?_eq_getElem h2, List.getElem?_eq_getElem h5, h4] at h6
      rw [Option.some.inj h6]; exact List.getElem_mem h5
    · exact h5
    · exfalso
      refine h3 ?_
      rw [h, List.take_append, List.take_of_length_le (by omega), show i - a.length = (i - a.length - 1) + 1 by omega, List.take_succ_cons]
      simp
theorem cut_at {s : ByteArray} {c : UInt8} {a b : List UInt8} (h : os s = a ++ c :: b) (ha : c ∉ a) (hs : s.size ≤ 100000) (k : Nat) (hk : 1 ≤ k) : strings_Cut.f k s ⟨#[c]⟩ = some (⟨a.toArray⟩, ⟨b.toArray⟩, true) := by
  have hi := first_c h ha
  have hz := size_os s
  have hz2 := hz
  rw [h, List.length_append, List.length_cons] at hz2
  have e1 : s.extract 0 a.length = ⟨a.toArray⟩ := os_inj (by rw [os_extract, h, List.drop_zero, Nat.sub_zero, List.take_left])
  have e2 : s.extract (a.length + 1) s.size = ⟨b.toArray⟩ := os_inj (by
    rw [os_extract, List.take_of_length_le (by rw [List.length_drop]; omega), h, show a ++ c :: b = (a ++ [c]) ++ b by simp, List.drop_left' (by simp)])
  have hw : wrap64 ((a.length : Int) + ((⟨#[c]⟩ : ByteArray).size : Int)) = ((a.length + 1 : Nat) : Int) := by show wrap64 (_ + 1) = _; rw [wrap64_id (by omega) (by omega)]; omega
  unfold strings_Cut.f stringslite_Cut.f
  rw [index_c s c k hk, Option.bind_some, hi]
  rw [if_pos (by omega), if_pos (by omega), if_pos (by omega), hw, if_pos (by omega), if_pos (by omega), Option.bind_some]
  simp only [Int.toNat_natCast, e1, e2]
theorem cut_no {s : ByteArray} {c : UInt8} (h : c ∉ os s) (k : Nat) (hk : 1 ≤ k) : strings_Cut.f k s ⟨#[c]⟩ = some (s, ⟨#[]⟩, false) := by
  rcases firstIdx_two s c with ⟨h1, _⟩ | ⟨i, _, h2, _, h4⟩
  · unfold strings_Cut.f stringslite_Cut.f
    rw [index_c s c k hk, Option.bind_some, h1, if_neg (by decide), Option.bind_some]
  · exact absurd (by rw [← h4]; exact List.getElem_mem h2) h
noncomputable def qc (c : UInt8) : Bool := decide (33 ≤ c.toNat) && (decide (c.toNat ≤ 126) && (decide (c.toNat ≠ 38) && decide (c.toNat ≠ 61)))
theorem plains2_ : ∀ n : Fin 256, (match query_Plain.f 3 ((n : Nat) : Int) with | some b => !b || qc (UInt8.ofNat n) | none => false) = true := by decide +kernel
theorem plain_q (c : UInt8) (k : Nat) (hk : 3 ≤ k) (hq : query_Plain.f k c.toNat = some true) : qc c = true := by
  have h := plains2_ ⟨c.toNat, c.toNat_lt⟩
  cases hp : query_Plain.f 3 ((c.toNat : Nat) : Int) with
  | none => rw [show (((⟨c.toNat, c.toNat_lt⟩ : Fin 256) : Nat) : Int) = (c.toNat : Int) from rfl, hp] at h; cases h
  | some b =>
    have := upTo (F := fun k => query_Plain.f k c.toNat) (fun k => query_Plain.mono _ k) hp hk
    obtain rfl : b = true := Option.some.inj ((this.symm).trans hq)
    rw [show (((⟨c.toNat, c.toNat_lt⟩ : Fin 256) : Nat) : Int) = (c.toNat : Int) from rfl, hp] at h
    simpa [UInt8.ofNat_toNat] using h
theorem hexq_ : ∀ n : Fin 16, qc (query_written.x n) = true := by decide +kernel
theorem o_q (k : Nat) (hk : 3 ≤ k) (c : UInt8) : ∃ y, query_written.o k c = some y ∧ y.all qc = true ∧ 1 ≤ y.length ∧ y.length ≤ 3 := by
  obtain ⟨b, hb, _⟩ := plain_p c k hk
  have hc := c.toNat_lt
  unfold query_written.o
  rw [hb, Option.bind_some]
  cases b with
  | true => rw [if_pos rfl]; exact ⟨_, rfl, by rw [List.all_cons, plain_q c k hk hb]; rfl, by simp, by simp⟩
  | false =>
    rw [if_neg (by decide)]
    split
    · exact ⟨_, rfl, by decide, by simp, by simp⟩
    · refine ⟨_, rfl, ?_, by simp, by simp⟩
      rw [List.all_cons, List.all_cons, List.all_cons, hexq_ ⟨c.toNat / 16, by omega⟩, hexq_ ⟨c.toNat % 16, by omega⟩]; rfl
theorem g_q (k : Nat) (hk : 3 ≤ k) : ∀ r : List UInt8, ∃ y, query_written.g k r = some y ∧ y.all qc = true ∧ r.length ≤ y.length ∧ y.length ≤ 3 * r.length
  | [] => ⟨[], rfl, rfl, Nat.le_refl _, Nat.le_refl _⟩
  | c :: r => by
    obtain ⟨x, e1, a1, b1, c1⟩ := o_q k hk c
    obtain ⟨y, e2, a2, b2, c2⟩ := g_q k hk r
    exact ⟨x ++ y, by rw [query_written.g, e1, Option.bind_some, e2, Option.bind_some], by rw [List.all_append, a1, a2]; rfl, by rw [List.length_append, List.length_cons]; omega, by rw [List.length_append, List.length_cons]; omega⟩
noncomputable def encW (r : List UInt8) : List UInt8 := (query_written.g 3 r).getD []
theorem encW_p (r : List UInt8) : (encW r).all qc = true ∧ r.length ≤ (encW r).length ∧ (encW r).length ≤ 3 * r.length ∧ query_written.g 3 r = some (encW r) := by
  obtain ⟨y, e, h1, h2, h3⟩ := g_q 3 (Nat.le_refl _) r
  unfold encW
  rw [e]
  exact ⟨h1, h2, h3, rfl⟩
theorem g_enc (k : Nat) (hk : 3 ≤ k) (r : List UInt8) : query_written.g k r = some (encW r) := upTo (F := fun k => query_written.g k r) (fun k => query_written.g_mono r k) (encW_p r).2.2.2 hk
theorem nums_os (r : List UInt8) : strOfNums (r.map fun c => (c.toNat : Int)) = ⟨r.toArray⟩ := os_inj (by
  show List.map _ (List.map _ r) = r
  rw [List.map_map]
  conv => rhs; rw [← List.map_id r]
  exact List.map_congr_left fun c _ => by simp [Function.comp])
theorem read_w (s : ByteArray) (r : List UInt8) (hs : os s = encW r) (hr : r.length ≤ 1000) (k : Nat) (hk : 3001 ≤ k) : query_read.f k s = some (⟨r.toArray⟩, true) := by
  have hz := size_os s
  have he := encW_p r
  rw [hs] at hz
  unfold query_read.f
  rw [if_pos (by omega), if_pos (by omega)]
  have := read_enc s (by omega) 3 (Nat.le_refl _) r (encW r) he.2.2.2 0 [] k (by rw [List.drop_zero]; exact hs) (by simp; omega) (by omega)
  rw [List.nil_append, nums_os] at this
  exact this
noncomputable def enc (x : PT) : List UInt8 := encW (os x.f0) ++ 61 :: encW (os x.f1)
theorem enc_mem {x : PT} {c : UInt8} (h : c ∈ enc x) : c = 61 ∨ qc c = true := by
  unfold enc at h
  rcases List.mem_append.1 h with h | h
  · exact .inr (List.all_eq_true.1 (encW_p _).1 c h)
  · rcases List.mem_cons.1 h with h | h
    · exact .inl h
    · exact .inr (List.all_eq_true.1 (encW_p _).1 c h)
theorem enc_len (x : PT) : (enc x).length ≤ 3 * ((os x.f0).length + (os x.f1).length) + 1 ∧ 1 ≤ (enc x).length := by
  have h1 := encW_p (os x.f0)
  have h2 := encW_p (os x.f1)
  unfold enc
  rw [List.length_append, List.length_cons]
  constructor <;> omega
theorem go_q (k : Nat) (hk : 3001 ≤ k) : ∀ (l : List PT) (ps : List ByteArray) (acc : List PT), ps.map os = l.map enc → (∀ x ∈ l, (os x.f0).length ≤ 40 ∧ (os x.f1).length ≤ 40) → acc.length + l.length ≤ 1000 → query_Parse.go k ps acc = some (some (acc ++ l))
  | [], ps, acc, h, _, _ => by
    obtain rfl : ps = [] := by simpa using h
    rw [query_Parse.go, List.append_nil]
  | x :: l, [], acc, h, _, _ => by simp at h
  | x :: l, p :: ps, acc, h, hx, ha => by
    rw [List.map_cons, List.map_cons] at h
    obtain ⟨h1, h2⟩ := List.cons.inj h
    have hx0 := hx x List.mem_cons_self
    have hl := enc_len x
    have hz := size_os p
    rw [h1] at hz
    rw [List.length_cons] at ha
    have hno : (61 : UInt8) ∉ encW (os x.f0) := fun hm => by have := List.all_eq_true.1 (encW_p (os x.f0)).1 61 hm; revert this; decide
    have hf : ∀ y : ByteArray, (⟨(os y).toArray⟩ : ByteArray) = y := fun y => os_inj rfl
    rw [query_Parse.go, cut_at h1 hno (by omega) k (by omega), Option.bind_some]
    dsimp only
    rw [read_w ⟨(encW (os x.f0)).toArray⟩ (os x.f0) rfl (by omega) k hk, Option.bind_some, read_w ⟨(encW (os x.f1)).toArray⟩ (os x.f1) rfl (by omega) k hk, Option.bind_some]
    dsimp only
    rw [if_pos rfl, if_pos rfl, if_pos (by omega), hf, hf, go_q k hk l ps _ h2 (fun y hy => hx y (List.mem_cons_of_mem _ hy)) (by rw [List.length_append, List.length_singleton]; omega), List.append_assoc]; rfl
theorem join_two (a b : List UInt8) (r : List (List UInt8)) (sep : List UInt8) : Lib.join (a :: b :: r) sep = a ++ (sep ++ Lib.join (b :: r) sep) := by
  rw [Lib.join_cons, Lib.join_cons]
  unfold Lib.joinTail
  rw [List.map_cons, List.flatten_cons, List.append_assoc]
theorem split_join (c : UInt8) : ∀ (a : List UInt8) (r : List (List UInt8)), (∀ x ∈ a :: r, c ∉ x) → splitL c (Lib.join (a :: r) [c]) = a :: r
  | a, [], h => by rw [Lib.join_one, splitL_free (h a List.mem_cons_self)]
  | a, b :: r, h => by
    rw [join_two, List.singleton_append, splitL_at _ (h a List.mem_cons_self), split_join c b r (fun x hx => h x (List.mem_cons_of_mem _ hx))]
noncomputable def encQ (l : List PT) : List UInt8 := Lib.join (l.map enc) [38]
theorem encQ_mem : ∀ {l : List PT} {c : UInt8}, c ∈ encQ l → c = 38 ∨ c = 61 ∨ qc c = true := by
  intro l
  induction l with
  | nil => intro c h; simp [encQ, Lib.join_nil] at h
  | cons x l ih =>
    intro c h
    unfold encQ at h
    cases l with
    | nil =>
      rw [List.map_cons, List.map_nil, Lib.join_one] at h
      exact .inr (enc_mem h)
    | cons y l =>
      rw [List.map_cons, List.map_cons, join_two] at h
      rcases List.mem_append.1 h with h | h
      · exact .inr (enc_mem h)
      · rcases List.mem_append.1 h with h | h
        · exact .inl (List.mem_singleton.1 h)
        · exact ih h
theorem encQ_len : ∀ {l : List PT}, (∀ x ∈ l, (os x.f0).length ≤ 40 ∧ (os x.f1).length ≤ 40) → (encQ l).length ≤ 250 * l.length := by
  intro l
  induction l with
  | nil => intro _; simp [encQ, Lib.join_nil]
  | cons x l ih =>
    intro h
    have hx := h x List.mem_cons_self
    have he := enc_len x
    unfold encQ
    cases l with
    | nil => rw [List.map_cons, List.map_nil, Lib.join_one]; simp; omega
    | cons y l =>
      have := ih (fun z hz => h z (List.mem_cons_of_mem _ hz))
      unfold encQ at this
      rw [List.map_cons] at this
      rw [List.map_cons, List.map_cons, join_two, List.length_append, List.length_append, List.length_cons (a := x)]
      simp only [List.length_cons, List.length_nil] at this ⊢
      omega
theorem encQ_ne {x : PT} {l : List PT} : encQ (x :: l) ≠ [] := by
  have he := enc_len x
  unfold encQ
  rw [List.map_cons, Lib.join_cons]
  intro h
  have := congrArg List.length h
  rw [List.length_append, List.length_nil] at this
  omega
theorem isQ_all {l : List PT} (h : isQ l = true) : (∀ x ∈ l, (os x.f0).length ≤ 40 ∧ (os x.f1).length ≤ 40) ∧ l.length ≤ 20 := by
  unfold isQ at h
  rw [Bool.and_eq_true, List.all_eq_true, decide_eq_true_eq] at h
  refine ⟨fun x hx => ?_, h.2⟩
  have := h.1 x hx
  simp only [Bool.and_eq_true, decide_eq_true_eq] at this
  exact this.2
theorem parse_enc (l : List PT) (h : isQ l = true) (k : Nat) (hk : 3001 ≤ k) : query_Parse.f k ⟨(encQ l).toArray⟩ = some (l, 0) := by
  obtain ⟨h1, h2⟩ := isQ_all h
  have hlen := encQ_len h1
  unfold query_Parse.f
  rw [toList_os, os_mk]
  cases l with
  | nil => rw [if_pos (by simp [encQ, Lib.join_nil])]
  | cons x l =>
    have hz := size_mk ((encQ (x :: l)))
    have hp : (pieces 38 (⟨(encQ (x :: l)).toArray⟩ : ByteArray)).map os = (x :: l).map enc := by
      rw [pieces_p 38 _ _ (Nat.le_refl _), os_mk]
      unfold encQ
      rw [List.map_cons]
      refine split_join 38 _ _ fun y hy hm => ?_
      rw [← List.map_cons] at hy
      obtain ⟨z, _, rfl⟩ := List.mem_map.1 hy
      rcases enc_mem hm with h | h
      · revert h; decide
      · revert h; decide
    rw [if_neg encQ_ne, if_pos (by omega), go_q k hk (x :: l) _ [] hp h1 (by simp at h2 ⊢; omega), Option.bind_some, List.nil_append]
    simp only [query_Parse.end_]
    rw [q_p _ (by omega) k (by omega), Option.bind_some, h, if_pos rfl]
noncomputable def askL (q : List PT) : List UInt8 := if encQ q = [] then [] else 63 :: encQ q
noncomputable def lineL (m p : List UInt8) (q : List PT) : List UInt8 := m ++ 32 :: ((p ++ askL q) ++ 32 :: [72, 84, 84, 80, 47, 49, 46, 49])
theorem meth_mem {m : List UInt8} (h : isMeth m = true) {c : UInt8} (hc : c ∈ m) : 65 ≤ c.toNat ∧ c.toNat ≤ 90 := by
  unfold isMeth at h
  simp only [Bool.and_eq_true, List.all_eq_true] at h
  have := h.2.2 c hc
  unfold big at this
  simpa using this
theorem path_mem {p : List UInt8} (h : isPath p = true) {c : UInt8} (hc : c ∈ p) : 33 ≤ c.toNat ∧ c.toNat ≤ 126 ∧ c.toNat ≠ 63 := by
  unfold isPath at h
  simp only [Bool.and_eq_true, List.all_eq_true] at h
  have := h.1 c hc
  unfold pok at this
  simp at this
  exact ⟨this.1, this.2.1, this.2.2.1⟩
theorem ask_mem {q : List PT} {c : UInt8} (h : c ∈ askL q) : 33 ≤ c.toNat ∧ c.toNat ≤ 126 := by
  unfold askL at h
  split at h
  · cases h
  · rcases List.mem_cons.1 h with rfl | h
    · decide
    · rcases encQ_mem h with rfl | rfl | h
      · decide
      · decide
      · unfold qc at h
        simp at h
        exact ⟨h.1, h.2.1⟩
theorem meth_len {m : List UInt8} (h : isMeth m = true) : 1 ≤ m.length ∧ m.length ≤ 10 := by
  unfold isMeth at h
  simp only [Bool.and_eq_true, decide_eq_true_eq] at h
  exact ⟨List.length_pos_iff.2 h.1, h.2.1⟩
theorem first_l (s m p : ByteArray) (q : List PT) (hm : isMeth (os m) = true) (hp : isPath (os p) = true) (hq : isQ q = true) (hs : os s = lineL (os m) (os p) q) (k : Nat) (hk : 3010 ≤ k) : head_first.f k s = some (m, ⟨#[]⟩, p, q, [], true) := by
  obtain ⟨k, rfl⟩ : ∃ m, k = m + 1 := ⟨k - 1, by omega⟩
  obtain ⟨hq1, hq2⟩ := isQ_all hq
  have hlen := encQ_len hq1
  have hml := meth_len hm
  have hpl := isPath_len hp
  have hz := size_os s
  have hal : (askL q).length ≤ (encQ q).length + 1 := by unfold askL; split <;> simp
  have hf : ∀ y : ByteArray, (⟨(os y).toArray⟩ : ByteArray) = y := fun y => os_inj rfl
  have hz2 := hz
  rw [hs] at hz2
  unfold lineL at hz2
  simp only [List.length_append, List.length_cons, List.length_nil] at hz2
  have n1 : (32 : UInt8) ∉ os m := fun h => by have := meth_mem hm h; revert this; decide
  have n2 : (32 : UInt8) ∉ os p ++ askL q := fun h => by
    rcases List.mem_append.1 h with h | h
    · have := path_mem hp h; revert this; decide
    · have := ask_mem h; revert this; decide
  have n3 : (63 : UInt8) ∉ os p := fun h => by have := path_mem hp h; revert this; decide
  have e1 := cut_at (s := s) (c := 32) (a := os m) (b := (os p ++ askL q) ++ 32 :: [72, 84, 84, 80, 47, 49, 46, 49]) hs n1 (by omega) (k + 1) (by omega)
  have z2 := size_mk (((os p ++ askL q) ++ 32 :: [72, 84, 84, 80, 47, 49, 46, 49]))
  simp only [List.length_append, List.length_cons, List.length_nil] at z2
  have e2 := cut_at (s := ⟨((os p ++ askL q) ++ 32 :: [72, 84, 84, 80, 47, 49, 46, 49]).toArray⟩) (c := 32) (a := os p ++ askL q) (b := [72, 84, 84, 80, 47, 49, 46, 49]) rfl n2 (by omega) (k + 1) (by omega)
  unfold head_first.f
  rw [e1, Option.bind_some]
  dsimp only
  rw [e2, Option.bind_some]
  dsimp only
  rw [if_pos (by rw [toList_os]), meth_p, Option.bind_some, os_mk, hm, Bool.not_true, head_first.j0, if_neg (by decide)]
  have z3 := size_mk ((os p ++ askL q))
  rw [List.length_append] at z3
  by_cases h0 : encQ q = []
  · have ha : askL q = [] := by unfold askL; rw [if_pos h0]
    have hqn : q = [] := by cases q with | nil => rfl | cons x l => exact absurd h0 encQ_ne
    have e3 := cut_no (s := ⟨(os p ++ askL q).toArray⟩) (c := 63) (by rw [os_mk, ha, List.append_nil]; exact n3) k (by omega)
    have e4 : query_Parse.f k ⟨#[]⟩ = some (q, 0) := by rw [← parse_enc q hq k (by omega), h0]
    rw [e3, Option.bind_some]
    dsimp only
    rw [e4, Option.bind_some]
    dsimp only
    rw [if_pos rfl, path_is, Option.bind_some, os_mk, ha, List.append_nil, hp, if_pos rfl, if_neg Bool.false_ne_true, hf, hf]
  · have ha : askL q = 63 :: encQ q := by unfold askL; rw [if_neg h0]
    have e3 := cut_at (s := ⟨(os p ++ askL q).toArray⟩) (c := 63) (a := os p) (b := encQ q) (by rw [os_mk, ha]) n3 (by omega) k (by omega)
    rw [e3, Option.bind_some]
    dsimp only
    rw [parse_enc q hq k (by omega), Option.bind_some]
    dsimp only
    rw [if_pos rfl, path_is, Option.bind_some, os_mk, hp, if_pos rfl, if_pos rfl, if_neg (by rw [toList_os, os_mk]; exact h0), hf, hf]
end Go.Proofs.YtpmllmfamjpinaaDoor.L
namespace Go.Proofs.YtpmllmfamjpinaaDoor.L
open Go Go.RowKit Go.Proofs.YtpmllmfamjpinaaDoor.P Go.Proofs.YtpmllmfamjpinaaDoorW.PrintWords Go.Proofs.YtpmllmfamjpinaaDoorW.PrintLast
theorem trim_s (s : ByteArray) (hs : s.size ≤ 100000) : ∃ t, strings_Trim.f s ⟨#[32]⟩ = some t ∧ os t = Lib.trimS (os s) [32] := by
  unfold strings_Trim.f
  rw [if_pos (by omega), if_pos (by decide), if_pos (by decide)]
  exact ⟨_, rfl, by rw [os_mk]⟩
theorem has32 (c : UInt8) : ([32] : List UInt8).contains c = (c == 32) := by
  show (match c == 32 with | true => true | false => false) = _
  cases c == 32 <;> rfl
theorem trimS_iff (l : List UInt8) : Lib.trimS l [32] = l ↔ l.head? ≠ some 32 ∧ l.getLast? ≠ some 32 := by
  unfold Lib.trimS Lib.trimLeftS Lib.trimRightS
  simp only [has32]
  constructor
  · intro he
    have d2 := dropWhile_len (· == (32 : UInt8)) l.reverse
    have d1 := dropWhile_len (· == (32 : UInt8)) (l.reverse.dropWhile (· == (32 : UInt8))).reverse
    have e0 := congrArg List.length he
    rw [List.length_reverse] at d1 d2
    have e3 : (l.reverse.dropWhile (· == (32 : UInt8))).length = l.length := by omega
    have e4 : (l.reverse.dropWhile (· == (32 : UInt8))).reverse = l := by rw [(d2.2 e3).1, List.reverse_reverse]
    have f2 := (d2.2 e3).2
    have f1 := (d1.2 (by omega)).2
    rw [e4] at f1
    refine ⟨fun h => ?_, fun h => ?_⟩
    · have := f1 32 h; simp at this
    · rw [List.head?_reverse] at f2
      have := f2 32 h; simp at this
  · rintro ⟨f1, f2⟩
    have e1 : (l.reverse.dropWhile (· == (32 : UInt8))).reverse = l := by
      rw [dropWhile_id, List.reverse_reverse]
      intro a ha
      rw [List.head?_reverse] at ha
      refine beq_eq_false_iff_ne.2 fun e => f2 ?_
      rw [ha, e]
    rw [e1, dropWhile_id]
    intro a ha
    refine beq_eq_false_iff_ne.2 fun e => f1 ?_
    rw [ha, e]
theorem trimS_32 (l : List UInt8) (h : Lib.trimS l [32] = l) : Lib.trimS (32 :: l) [32] = l := by
  obtain ⟨f1, f2⟩ := (trimS_iff l).1 h
  unfold Lib.trimS Lib.trimLeftS Lib.trimRightS
  simp only [has32]
  by_cases h0 : l = []
  · subst h0; rfl
  · have e1 : ((32 :: l).reverse.dropWhile (· == (32 : UInt8))).reverse = 32 :: l := by
      rw [dropWhile_id, List.reverse_reverse]
      intro a ha
      rw [List.head?_reverse, List.getLast?_cons] at ha
      refine beq_eq_false_iff_ne.2 fun e => f2 ?_
      rw [List.getLast?_eq_some_getLast h0] at ha ⊢
      rw [← e, ← ha]; rfl
    rw [e1, List.dropWhile_cons, if_pos (by decide), dropWhile_id]
    intro a ha
    refine beq_eq_false_iff_ne.2 fun e => f1 ?_
    rw [ha, e]
theorem val18_loop (s : ByteArray) (hs : (os s).length ≤ 1000) : ∀ (n i k : Nat), (os s).length - i ≤ n → i ≤ (os s).length → n + 1 ≤ k → pairs_Value.l0 k s (s.size : Int) (i : Int) = some (((os s).drop i).all (fun c => decide (32 ≤ c.toNat) && decide (c.toNat ≤ 126)) && (decide ((os s).length ≤ 40) && (decide ((os s).head? ≠ some 32) && decide ((os s).getLast? ≠ some 32)))) := by
  have hsz := size_os s
  have hend : ∀ k, pairs_Value.l0 (k + 1) s (s.size : Int) ((os s).length : Int) = some (decide ((os s).length ≤ 40) && (decide ((os s).head? ≠ some 32) && decide ((os s).getLast? ≠ some 32))) := fun k => by
    rw [pairs_Value.l0, if_neg (by omega)]
    obtain ⟨t, h1, h2⟩ := trim_s s (by omega)
    have h3 := trimS_iff (os s)
    rw [← h2] at h3
    have h4 : decide (os t = os s) = (decide ((os s).head? ≠ some 32) && decide ((os s).getLast? ≠ some 32)) := by
      rw [Bool.eq_iff_iff, decide_eq_true_eq, h3, Bool.and_eq_true, decide_eq_true_eq, decide_eq_true_eq]
    by_cases h : (os s).length ≤ 40
    · rw [if_pos (by omega), h1, Option.bind_some, toList_os, toList_os, decide_eq_true h, Bool.true_and, ← h4]
      first | rfl | (congr 1; rw [Bool.eq_iff_iff, beq_iff_eq, decide_eq_true_eq])
    · rw [if_neg (by omega), decide_eq_false h, Bool.false_and]
  intro n
  induction n with
  | zero =>
    intro i k h1 h2 h3
    obtain ⟨k, rfl⟩ : ∃ m, k = m + 1 := ⟨k - 1, by omega⟩
    obtain rfl : i = (os s).length := by omega
    rw [hend k, List.drop_length]; rfl
  | succ n ih =>
    intro i k h1 h2 h3
    obtain ⟨k, rfl⟩ : ∃ m, k = m + 1 := ⟨k - 1, by omega⟩
    by_cases hi : i < (os s).length
    · rw [pairs_Value.l0, if_pos (by omega), if_pos (by omega), if_pos (by omega), bt_c hi, wrapS (by omega), ih (i + 1) k (by omega) (by omega) (by omega), List.drop_eq_getElem_cons hi, List.all_cons]
      by_cases a1 : ((os s)[i]'hi).toNat < 32
      · rw [if_pos (by omega), show decide (32 ≤ ((os s)[i]'hi).toNat) = false from decide_eq_false (by omega)]; rfl
      · rw [if_neg (by omega), show decide (32 ≤ ((os s)[i]'hi).toNat) = true from decide_eq_true (by omega)]
        by_cases a2 : ((os s)[i]'hi).toNat > 126
        · rw [if_pos (by omega), show decide (((os s)[i]'hi).toNat ≤ 126) = false from decide_eq_false (by omega)]; rfl
        · rw [if_neg (by omega), show decide (((os s)[i]'hi).toNat ≤ 126) = true from decide_eq_true (by omega)]; rfl
    · obtain rfl : i = (os s).length := by omega
      rw [hend k, List.drop_length]; rfl
theorem val18 (s : ByteArray) (hs : (os s).length ≤ 1000) (k : Nat) (hk : 1002 ≤ k) : pairs_Value.f k s = some (isVal (os s)) := by
  have := val18_loop s hs (os s).length 0 k (by omega) (by omega) (by omega)
  rw [List.drop_zero] at this
  exact this
theorem isTok_len {l : List UInt8} (h : isTok l = true) : 1 ≤ l.length ∧ l.length ≤ 40 := by
  unfold isTok at h
  simp only [Bool.and_eq_true, decide_eq_true_eq] at h
  exact ⟨List.length_pos_iff.2 h.2.1, h.2.2⟩
theorem isVal_len {l : List UInt8} (h : isVal l = true) : l.length ≤ 40 := by
  unfold isVal at h
  simp only [Bool.and_eq_true, decide_eq_true_eq] at h
  exact h.2.1
theorem isVal_trim {l : List UInt8} (h : isVal l = true) : Lib.trimS l [32] = l := by
  unfold isVal at h
  simp only [Bool.and_eq_true, decide_eq_true_eq] at h
  exact (trimS_iff l).2 ⟨h.2.2.1, h.2.2.2⟩
theorem tok_no : ∀ n : Fin 256, tok (UInt8.ofNat n) = true → ((n : Nat) ≠ 58 ∧ (n : Nat) ≠ 13) := by decide +kernel
theorem tok_mem {l : List UInt8} (h : isTok l = true) {c : UInt8} (hc : c ∈ l) : c.toNat ≠ 58 ∧ c.toNat ≠ 13 := by
  unfold isTok at h
  simp only [Bool.and_eq_true, List.all_eq_true] at h
  have := tok_no ⟨c.toNat, c.toNat_lt⟩ (by
    show tok (UInt8.ofNat c.toNat) = true
    rw [UInt8.ofNat_toNat]; exact h.1 c hc)
  exact this
theorem val_mem {l : List UInt8} (h : isVal l = true) {c : UInt8} (hc : c ∈ l) : 32 ≤ c.toNat ∧ c.toNat ≤ 126 := by
  unfold isVal at h
  simp only [Bool.and_eq_true, List.all_eq_true] at h
  have := h.1 c hc
  simpa using this
noncomputable def rowL (x : PT) : List UInt8 := os x.f0 ++ 58 :: 32 :: os x.f1
theorem field_v (s n : ByteArray) (v : List UInt8) (hn : isTok (os n) = true) (hv : v.length ≤ 900) (hs : os s = os n ++ 58 :: v) (k : Nat) (hk : 1100 ≤ k) : head_field.f k s = some (n, ⟨(Lib.trimS v [32]).toArray⟩, isVal (Lib.trimS v [32])) := by
  have ln := isTok_len hn
  have hz := size_os s
  rw [hs, List.length_append, List.length_cons] at hz
  have hf : ∀ y : ByteArray, (⟨(os y).toArray⟩ : ByteArray) = y := fun y => os_inj rfl
  have z2 := size_mk v
  obtain ⟨t, h1, h2⟩ := trim_s ⟨v.toArray⟩ (by omega)
  obtain ⟨t', h1', h2'⟩ := trim_t ⟨v.toArray⟩ (by omega)
  obtain rfl : t = t' := Option.some.inj (h1.symm.trans h1')
  rw [os_mk v] at h2 h2'
  have ht : t = ⟨(Lib.trimS v [32]).toArray⟩ := os_inj h2
  unfold head_field.f
  rw [cut_at hs (fun hm => (tok_mem hn hm).1 rfl) (by omega) k (by omega), Option.bind_some]
  dsimp only
  rw [h1, Option.bind_some, if_pos rfl, hf, tok_p n (by omega) k (by omega), Option.bind_some, hn, if_pos rfl, val18 t (by omega) k (by omega), Option.bind_some, h2, ht]
theorem field_l (s : ByteArray) (x : PT) (hn : isTok (os x.f0) = true) (hv : isVal (os x.f1) = true) (hs : os s = rowL x) (k : Nat) (hk : 1100 ≤ k) : head_field.f k s = some (x.f0, x.f1, true) := by
  have h1 := isVal_len hv
  rw [field_v s x.f0 (32 :: os x.f1) hn (by rw [List.length_cons]; omega) hs k hk, trimS_32 _ (isVal_trim hv), hv]
theorem idx_skip (c : UInt8) (t r : List UInt8) : ∀ a : List UInt8, c ∉ a → Lib.index (a ++ r) (c :: t) = if Lib.index r (c :: t) = -1 then -1 else Lib.index r (c :: t) + a.length
  | [], _ => by
    rw [List.nil_append, List.length_nil]
    split
    · next h => exact h
    · omega
  | b :: a, h => by
    have ih := idx_skip c t r a (fun hm => h (List.mem_cons_of_mem _ hm))
    have hge := Lib.index_ge r (c :: t)
    have hb : (c == b) = false := beq_eq_false_iff_ne.2 fun e => h (by rw [e]; exact List.mem_cons_self)
    rw [List.cons_append, Lib.index, List.isPrefixOf, hb, Bool.false_and, if_neg Bool.false_ne_true, ih, List.length_cons]
    by_cases h1 : Lib.index r (c :: t) = -1
    · rw [if_pos h1, if_pos h1]; rfl
    · rw [if_neg h1, if_neg h1, if_neg (by rw [beq_iff_eq]; omega)]; omega
theorem idx_none (c : UInt8) (t a : List UInt8) (h : c ∉ a) : Lib.index a (c :: t) = -1 := by
  have := idx_skip c t [] a h
  rw [List.append_nil] at this
  rw [this]; rfl
theorem crlf_fit (s : ByteArray) (h : 0 ≤ Lib.index s.data.toList (⟨#[13, 10]⟩ : ByteArray).data.toList) : (Lib.index s.data.toList (⟨#[13, 10]⟩ : ByteArray).data.toList).toNat + (⟨#[13, 10]⟩ : ByteArray).size ≤ s.size := by
  rcases Go.Lib.indexB_cases s ⟨#[13, 10]⟩ with q | ⟨i, q, hq⟩
  · have : Lib.index s.data.toList (⟨#[13, 10]⟩ : ByteArray).data.toList = -1 := q
    omega
  · have : Lib.index s.data.toList (⟨#[13, 10]⟩ : ByteArray).data.toList = (i : Int) := q
    omega
theorem piecesM_j : ∀ (r : List (List UInt8)) (a : List UInt8) (s : ByteArray), os s = Lib.join (a :: r) [13, 10] → (∀ x ∈ a :: r, (13 : UInt8) ∉ x) → (piecesM ⟨#[13, 10]⟩ s).map os = a :: r
  | [], a, s, hs, h => by
    rw [Lib.join_one] at hs
    have hi : Lib.index s.data.toList (⟨#[13, 10]⟩ : ByteArray).data.toList = -1 := by
      show Lib.index (os s) [13, 10] = -1
      rw [hs]; exact idx_none 13 [10] a (h a List.mem_cons_self)
    unfold piecesM
    rw [cuts_neg (by rw [hi]; decide)]
    show [os s] = [a]
    rw [hs]
  | b :: r, a, s, hs, h => by
    rw [join_two] at hs
    have hz := size_os s
    have hi : Lib.index s.data.toList (⟨#[13, 10]⟩ : ByteArray).data.toList = (a.length : Int) := by
      show Lib.index (os s) [13, 10] = _
      rw [hs, idx_skip 13 [10] _ a (h a List.mem_cons_self), show Lib.index ([13, 10] ++ Lib.join (b :: r) [13, 10]) [13, 10] = 0 from rfl, if_neg (by decide)]; omega
    have e3 : os (s.extract (a.length + 2) s.size) = Lib.join (b :: r) [13, 10] := by
      rw [os_extract, List.take_of_length_le (by rw [List.length_drop]; omega), hs, ← List.append_assoc, List.drop_left' (by rw [List.length_append]; rfl)]
    have e4 : os (s.extract 0 a.length) = a := by rw [os_extract, List.drop_zero, Nat.sub_zero, hs, List.take_left]
    have ih := piecesM_j r b (s.extract (a.length + 2) s.size) e3 (fun x hx => h x (List.mem_cons_of_mem _ hx))
    unfold piecesM at ih ⊢
    rw [show (⟨#[13, 10]⟩ : ByteArray).size = 2 from rfl] at ih ⊢
    rw [cuts_cons _ 2 (by decide) (fun t ht => crlf_fit t ht) (i := a.length) hi, List.map_cons, e4, ih]
theorem idx_head (behind : List UInt8) : ∀ (r : List (List UInt8)) (a : List UInt8), (∀ x ∈ a :: r, (13 : UInt8) ∉ x ∧ x ≠ []) → Lib.index (Lib.join (a :: r) [13, 10] ++ 13 :: 10 :: 13 :: 10 :: behind) [13, 10, 13, 10] = ((Lib.join (a :: r) [13, 10]).length : Int)
  | [], a, h => by
    rw [Lib.join_one, idx_skip 13 [10, 13, 10] _ a (h a List.mem_cons_self).1, show Lib.index (13 :: 10 :: 13 :: 10 :: behind) [13, 10, 13, 10] = 0 from rfl, if_neg (by decide)]; omega
  | b :: r, a, h => by
    have ih := idx_head behind r b (fun x hx => h x (List.mem_cons_of_mem _ hx))
    have hb := h b (List.mem_cons_of_mem _ List.mem_cons_self)
    obtain ⟨c, b', rfl⟩ : ∃ c b', b = c :: b' := List.exists_cons_of_ne_nil hb.2
    have hc : ((13 : UInt8) == c) = false := beq_eq_false_iff_ne.2 fun e => hb.1 (by rw [e]; exact List.mem_cons_self)
    obtain ⟨z, hz⟩ : ∃ z, Lib.join ((c :: b') :: r) [13, 10] ++ 13 :: 10 :: 13 :: 10 :: behind = c :: z := by
      rw [Lib.join_cons]; exact ⟨_, rfl⟩
    have hl : ((Lib.join ((c :: b') :: r) [13, 10]).length : Int) ≠ -1 := by omega
    rw [join_two, List.append_assoc, idx_skip 13 [10, 13, 10] _ a (h a List.mem_cons_self).1, List.append_assoc]
    have e : Lib.index ([13, 10] ++ (Lib.join ((c :: b') :: r) [13, 10] ++ 13 :: 10 :: 13 :: 10 :: behind)) [13, 10, 13, 10] = ((Lib.join ((c :: b') :: r) [13, 10]).length : Int) + 2 := by
      rw [hz] at ih ⊢
      show Lib.index (13 :: 10 :: c :: z) [13, 10, 13, 10] = _
      rw [Lib.index, show ([13, 10, 13, 10] : List UInt8).isPrefixOf (13 :: 10 :: c :: z) = false from by
        simp only [List.isPrefixOf, hc, Bool.false_and, Bool.and_false], if_neg Bool.false_ne_true, Lib.index, show ([13, 10, 13, 10] : List UInt8).isPrefixOf (10 :: c :: z) = false from rfl, if_neg Bool.false_ne_true, ih]
      rw [show (((Lib.join ((c :: b') :: r) [13, 10]).length : Int) == -1) = false from beq_eq_false_iff_ne.2 hl, if_neg Bool.false_ne_true, if_neg (by rw [beq_iff_eq]; omega)]; omega
    rw [e, if_neg (by omega)]
    simp only [List.length_append, List.length_cons, List.length_nil]
    omega
theorem join_end (sep : List UInt8) : ∀ (r : List (List UInt8)) (a : List UInt8), Lib.join (a :: r) sep ++ sep = a ++ sep ++ (r.map (· ++ sep)).flatten
  | [], a => by rw [Lib.join_one]; simp
  | b :: r, a => by rw [join_two, List.append_assoc, List.append_assoc, join_end sep r b, List.map_cons, List.flatten_cons]; simp [List.append_assoc]
structure GoodR (m h p : ByteArray) (q l : List PT) : Prop where
  qq : isQ q = true
  mm : isMeth (os m) = true
  pp : isPath (os p) = true
  ll : headOK l = true
  n30 : l.length ≤ 30
  host : head_asked.f 1100 l = some (h, true)
theorem headOK_mem {l : List PT} (h : headOK l = true) {x : PT} (hx : x ∈ l) : isTok (os x.f0) = true ∧ isVal (os x.f1) = true := by
  unfold headOK at h
  have := List.all_eq_true.1 h x hx
  rwa [Bool.and_eq_true] at this
noncomputable def linesL (m p : List UInt8) (q l : List PT) : List (List UInt8) := lineL m p q :: l.map rowL
noncomputable def bodyL (m p : List UInt8) (q l : List PT) : List UInt8 := Lib.join (linesL m p q l) [13, 10]
theorem GoodR.lines {m h p : ByteArray} {q l : List PT} (g : GoodR m h p q l) : ∀ x ∈ linesL (os m) (os p) q l, (13 : UInt8) ∉ x ∧ x ≠ [] := by
  intro x hx
  unfold linesL at hx
  rcases List.mem_cons.1 hx with rfl | hx
  · refine ⟨fun h => ?_, by unfold lineL; simp⟩
    unfold lineL at h
    rcases List.mem_append.1 h with h | h
    · have := meth_mem g.mm h; revert this; decide
    · rcases List.mem_cons.1 h with h | h
      · revert h; decide
      · rcases List.mem_append.1 h with h | h
        · rcases List.mem_append.1 h with h | h
          · have := path_mem g.pp h; revert this; decide
          · have := ask_mem h; revert this; decide
        · revert h; decide
  · obtain ⟨y, hy, rfl⟩ := List.mem_map.1 hx
    have h1 := headOK_mem g.ll hy
    refine ⟨fun h => ?_, by unfold rowL; simp⟩
    unfold rowL at h
    rcases List.mem_append.1 h with h | h
    · exact (tok_mem h1.1 h).2 rfl
    · rcases List.mem_cons.1 h with h | h
      · revert h; decide
      · rcases List.mem_cons.1 h with h | h
        · revert h; decide
        · have := val_mem h1.2 h; revert this; decide
theorem asked_up {l : List PT} {r : ByteArray × Bool} (h : head_asked.f 1100 l = some r) {k : Nat} (hk : 1100 ≤ k) : head_asked.f k l = some r := upTo (F := fun k => head_asked.f k l) (fun k => head_asked.mono l k) h hk
noncomputable def headL (m p : List UInt8) (q l : List PT) : List UInt8 := bodyL m p q l ++ [13, 10, 13, 10]
end Go.Proofs.YtpmllmfamjpinaaDoor.L
namespace Go.Proofs.YtpmllmfamjpinaaDoor.L
open Go Go.RowKit Go.Proofs.YtpmllmfamjpinaaDoor.P Go.Proofs.YtpmllmfamjpinaaDoorW.PrintWords Go.Proofs.YtpmllmfamjpinaaDoorW.PrintLast
noncomputable def encB (x : PT) : ByteArray := ⟨(enc x).toArray⟩
theorem written_f (s : ByteArray) (hs : s.size ≤ 1000) (k : Nat) (hk : 3 ≤ k) : query_written.f k s = some ⟨(encW (os s)).toArray⟩ := by
  unfold query_written.f
  rw [if_pos (by omega), g_enc k hk, Option.bind_some]
theorem text_loop (q : List PT) (h : ∀ x ∈ q, (os x.f0).length ≤ 40 ∧ (os x.f1).length ≤ 40) (hq : q.length ≤ 1000) : ∀ (n i k : Nat) (acc : List ByteArray), q.length - i ≤ n → i ≤ q.length → acc.length ≤ 1000 + i → n + 4 ≤ k → query_Text.l0 k acc q (q.length : Int) (i : Int) = (strings_Join.f (acc ++ (q.drop i).map encB) ⟨#[38]⟩).bind fun t => some (t, 0) := by
  intro n
  induction n with
  | zero =>
    intro i k acc h1 h2 h3 h4
    obtain ⟨k, rfl⟩ : ∃ m, k = m + 1 := ⟨k - 1, by omega⟩
    rw [query_Text.l0, if_neg (by omega), List.drop_eq_nil_of_le (by omega), List.map_nil, List.append_nil]
  | succ n ih =>
    intro i k acc h1 h2 h3 h4
    obtain ⟨k, rfl⟩ : ∃ m, k = m + 1 := ⟨k - 1, by omega⟩
    rw [query_Text.l0]
    by_cases hi : i < q.length
    · have hx := h _ (List.getElem_mem hi)
      have z0 := size_os (q[i]'hi).f0
      have z1 := size_os (q[i]'hi).f1
      have y0 := encW_p (os (q[i]'hi).f0)
      have y1 := encW_p (os (q[i]'hi).f1)
      have w0 := size_mk (encW (os (q[i]'hi).f0))
      have w1 := size_mk (encW (os (q[i]'hi).f1))
      have w2 : ((⟨(encW (os (q[i]'hi).f0)).toArray⟩ : ByteArray) ++ (⟨#[61]⟩ : ByteArray)).size = (encW (os (q[i]'hi).f0)).length + 1 := by
        rw [size_os, os_append, List.length_append]; rfl
      have e : ((⟨(encW (os (q[i]'hi).f0)).toArray⟩ : ByteArray) ++ (⟨#[61]⟩ : ByteArray)) ++ (⟨(encW (os (q[i]'hi).f1)).toArray⟩ : ByteArray) = encB (q[i]'hi) := os_inj (by
        rw [os_append, os_append]
        show (encW (os (q[i]'hi).f0) ++ [61]) ++ encW (os (q[i]'hi).f1) = enc (q[i]'hi)
        unfold enc; rw [List.append_assoc]; rfl)
      rw [if_pos (by omega), if_pos (by omega), if_pos (by omega), rd_at q i hi, written_f _ (by omega) k (by omega), Option.bind_some, if_pos (by omega), written_f _ (by omega) k (by omega), Option.bind_some, if_pos (by rw [w2]; omega), if_pos (by omega), e, wrapS (by omega)]
      rw [ih (i + 1) k _ (by omega) (by omega) (by rw [List.length_append, List.length_singleton]; omega) (by omega), List.drop_eq_getElem_cons hi, List.map_cons, List.append_assoc]; rfl
    · rw [if_neg (by omega), List.drop_eq_nil_of_le (by omega), List.map_nil, List.append_nil]
theorem text_l (q : List PT) (h : isQ q = true) (k : Nat) (hk : 1200 ≤ k) : query_Text.f k q = some (⟨(encQ q).toArray⟩, 0) := by
  obtain ⟨h1, h2⟩ := isQ_all h
  have hlen := encQ_len h1
  have he : ((q.map encB).map fun x => x.data.toList) = q.map enc := by rw [List.map_map]; rfl
  unfold query_Text.f
  rw [q_p q (by omega) k (by omega), Option.bind_some, h, if_pos rfl, if_pos (by omega), if_pos (by omega), show (0 : Int) = ((0 : Nat) : Int) from rfl, text_loop q h1 (by omega) q.length 0 k [] (by omega) (by omega) (by simp) (by omega), List.drop_zero, List.nil_append]
  unfold strings_Join.f
  rw [he, show (⟨#[38]⟩ : ByteArray).data.toList = [38] from rfl, if_pos ⟨by show (encQ q).length ≤ _; omega, by rw [List.length_map]; omega⟩, Option.bind_some]; rfl
theorem row_f (k : Nat) (hk : 1100 ≤ k) (x : PT) (h : isTok (os x.f0) = true) (hv : isVal (os x.f1) = true) : head_Lay.row k x = some (some (rowL x ++ [13, 10])) := by
  have h1 := isTok_len h
  have h2 := isVal_len hv
  unfold head_Lay.row rowL
  rw [tok_p _ (by omega) k (by omega), Option.bind_some, h, if_pos rfl, val18 _ (by omega) k (by omega), Option.bind_some, hv, if_pos rfl]
  simp [List.append_assoc]
theorem rows_f (k : Nat) (hk : 1100 ≤ k) : ∀ l : List PT, headOK l = true → head_Lay.rows k l = some (some ((l.map fun x => rowL x ++ [13, 10]).flatten))
  | [], _ => rfl
  | x :: l, h => by
    have hx := headOK_mem h (List.mem_cons_self (a := x) (l := l))
    have h2 : headOK l = true := by unfold headOK at h ⊢; rw [List.all_cons, Bool.and_eq_true] at h; exact h.2
    rw [head_Lay.rows, row_f k hk x hx.1 hx.2, Option.bind_some, if_neg (by simp), rows_f k hk l h2, Option.bind_some]; rfl
theorem wt_le : ∀ l : List PT, headOK l = true → head_Lay.wt l ≤ 100 * l.length
  | [], _ => Nat.le_refl _
  | x :: l, h => by
    have hx := headOK_mem h (List.mem_cons_self (a := x) (l := l))
    have h2 : headOK l = true := by unfold headOK at h ⊢; rw [List.all_cons, Bool.and_eq_true] at h; exact h.2
    have h3 := isTok_len hx.1
    have h4 := isVal_len hx.2
    have ih := wt_le l h2
    have z0 := size_os x.f0
    have z1 := size_os x.f1
    unfold head_Lay.wt at ih ⊢
    rw [List.map_cons, List.sum_cons, List.length_cons]
    omega
noncomputable def layEnd (m p : List UInt8) (q l : List PT) : ByteArray × Int := if (headL m p q l).length > 1000 then (⟨#[]⟩, 5) else (⟨(headL m p q l).toArray⟩, 0)
theorem line_eq (m p : ByteArray) (q : List PT) : head_Lay.line m p ⟨(encQ q).toArray⟩ = lineL (os m) (os p) q ++ [13, 10] := by
  have hz := size_mk (encQ q)
  unfold head_Lay.line head_Lay.asks lineL askL
  by_cases h : encQ q = []
  · rw [if_pos (by rw [hz, h]; rfl), if_pos h]; simp [List.append_assoc]
  · rw [if_neg (by rw [hz]; exact fun e => h (List.length_eq_zero_iff.1 e)), if_neg h]; simp [List.append_assoc]
theorem GoodR.lay {m h p : ByteArray} {q l : List PT} (g : GoodR m h p q l) (k : Nat) (hk : 1200 ≤ k) : head_Lay.f k m h p q l = some (layEnd (os m) (os p) q l) := by
  obtain ⟨h1, h2⟩ := isQ_all g.qq
  have hlen := encQ_len h1
  have hm := meth_len g.mm
  have hp := isPath_len g.pp
  have hw := wt_le l g.ll
  have n30 := g.n30
  have z0 := size_os m
  have z1 := size_os p
  have hz := size_mk (encQ q)
  unfold head_Lay.f
  rw [text_l q g.qq k hk, Option.bind_some, asked_up g.host (by omega), Option.bind_some]
  dsimp only
  rw [if_pos rfl, if_pos rfl, if_pos rfl, meth_p, Option.bind_some, g.mm, if_pos rfl, path_is, Option.bind_some, g.pp, if_pos rfl, decide_eq_false (by omega)]
  unfold head_Lay.j0
  rw [if_neg (by decide), if_pos (by omega), rows_f k (by omega) l g.ll, Option.bind_some]
  have e : head_Lay.line m p ⟨(encQ q).toArray⟩ ++ (l.map fun x => rowL x ++ [13, 10]).flatten ++ [13, 10] = headL (os m) (os p) q l := by
    have := join_end [13, 10] (l.map rowL) (lineL (os m) (os p) q)
    rw [List.map_map] at this
    rw [line_eq]
    unfold headL bodyL linesL
    rw [show ([13, 10, 13, 10] : List UInt8) = [13, 10] ++ [13, 10] from rfl, ← List.append_assoc, this]; rfl
  unfold head_Lay.end_ layEnd
  simp only [e]
end Go.Proofs.YtpmllmfamjpinaaDoor.L
namespace Go.Proofs.YtpmllmfamjpinaaDoor.L
open Go Go.RowKit Go.Proofs.YtpmllmfamjpinaaDoor.P Go.Proofs.YtpmllmfamjpinaaDoorW.PrintWords Go.Proofs.YtpmllmfamjpinaaDoorW.PrintLast
theorem asked18 (a b c : ByteArray) (q h : List PT) (n : Nat) (hn : 70 ≤ n) : tolllaw06_Asked.f n a b c q h = some (few a, few b, few c, fewL q, fewL h) := by
  unfold tolllaw06_Asked.f
  rw [few_eq, Option.bind_some, few_eq, Option.bind_some, few_eq, Option.bind_some, fewL_eq _ _ hn, Option.bind_some, fewL_eq _ _ hn, Option.bind_some]
theorem text_any (q : List PT) (hq : q.length ≤ 1000) (k : Nat) (hk : 1200 ≤ k) : query_Text.f k q = some (if isQ q = true then (⟨(encQ q).toArray⟩, 0) else (⟨#[]⟩, 1)) := by
  cases h : isQ q with
  | true => rw [if_pos rfl]; exact text_l q h k hk
  | false =>
    rw [if_neg (by decide)]
    unfold query_Text.f
    rw [q_p q hq k (by omega), Option.bind_some, h, if_neg (by decide)]
theorem row_any (k : Nat) (hk : 1100 ≤ k) (x : PT) (h0 : (os x.f0).length ≤ 1000) (h1 : (os x.f1).length ≤ 1000) : head_Lay.row k x = some (if (isTok (os x.f0) && isVal (os x.f1)) = true then some (rowL x ++ [13, 10]) else none) := by
  unfold head_Lay.row
  rw [tok_p _ h0 k (by omega), Option.bind_some]
  cases ht : isTok (os x.f0) with
  | false => rfl
  | true =>
    rw [if_pos rfl, val18 _ h1 k (by omega), Option.bind_some]
    cases hv : isVal (os x.f1) with
    | false => rfl
    | true =>
      have := row_f k hk x ht hv
      unfold head_Lay.row at this
      rw [tok_p _ h0 k (by omega), Option.bind_some, ht, if_pos rfl, val18 _ h1 k (by omega), Option.bind_some, hv] at this
      exact this
theorem rows_any (k : Nat) (hk : 1100 ≤ k) : ∀ l : List PT, (∀ x ∈ l, (os x.f0).length ≤ 1000 ∧ (os x.f1).length ≤ 1000) → headOK l = false → head_Lay.rows k l = some none
  | [], _, h => by cases h
  | x :: l, hl, h => by
    have hx := hl x List.mem_cons_self
    have e := row_any k hk x hx.1 hx.2
    rw [head_Lay.rows, e, Option.bind_some]
    cases ho : (isTok (os x.f0) && isVal (os x.f1)) with
    | false => rw [if_neg Bool.false_ne_true, if_pos rfl]
    | true =>
      have h2 : headOK l = false := by
        unfold headOK at h ⊢
        rw [List.all_cons, ho, Bool.true_and] at h; exact h
      rw [if_pos rfl, if_neg (by simp), rows_any k hk l (fun y hy => hl y (List.mem_cons_of_mem _ hy)) h2, Option.bind_some]; rfl
theorem wt_any : ∀ l : List PT, (∀ x ∈ l, (os x.f0).length ≤ 1000 ∧ (os x.f1).length ≤ 1000) → head_Lay.wt l ≤ 2004 * l.length
  | [], _ => Nat.le_refl _
  | x :: l, h => by
    have hx := h x List.mem_cons_self
    have ih := wt_any l (fun y hy => h y (List.mem_cons_of_mem _ hy))
    have z0 := size_os x.f0
    have z1 := size_os x.f1
    unfold head_Lay.wt at ih ⊢
    rw [List.map_cons, List.sum_cons, List.length_cons]
    omega
theorem lay_any (m h p : ByteArray) (q l : List PT) (hm : (os m).length ≤ 1000) (hp : (os p).length ≤ 1000) (hq : q.length ≤ 1000) (hl : Small 1000 l) (k : Nat) (hk : 1200 ≤ k) : (GoodR m h p q l ∧ head_Lay.f k m h p q l = some (layEnd (os m) (os p) q l)) ∨ (¬ GoodR m h p q l ∧ head_Lay.f k m h p q l = some (⟨#[]⟩, 1)) := by
  by_cases g : GoodR m h p q l
  · exact .inl ⟨g, g.lay k hk⟩
  · refine .inr ⟨g, ?_⟩
    obtain ⟨h', ok, ea⟩ := asked_t l hl 1100 (Nat.le_refl _)
    have hl1 : ∀ x ∈ l, (os x.f0).length ≤ 1000 ∧ (os x.f1).length ≤ 1000 := fun x hx => by have := hl.2 x hx; omega
    have hw := wt_any l hl1
    have hn := hl.1
    have z0 := size_os m
    have z1 := size_os p
    have bad : ∀ x, head_Lay.j0 k m p l x true = some (⟨#[]⟩, 1) := fun x => by unfold head_Lay.j0; rw [if_pos rfl]
    unfold head_Lay.f
    rw [text_any q hq k hk, Option.bind_some, asked_up ea (by omega), Option.bind_some]
    dsimp only
    cases hqq : isQ q with
    | false => rw [if_neg (show ¬ (false = true) by decide), if_neg (by decide), bad]
    | true =>
      obtain ⟨hq1, hq2⟩ := isQ_all hqq
      have hlen := encQ_len hq1
      have hz := size_mk (encQ q)
      rw [if_pos rfl, if_pos rfl]
      cases ok with
      | false => rw [if_neg (by decide), bad]
      | true =>
        rw [if_pos rfl]
        by_cases hh : h'.toList = h.toList
        · rw [if_pos hh, meth_p, Option.bind_some]
          rw [toList_os, toList_os] at hh
          obtain rfl := os_inj hh
          cases hmm : isMeth (os m) with
          | false => rw [if_neg (by decide), bad]
          | true =>
            rw [if_pos rfl, path_is, Option.bind_some]
            cases hpp : isPath (os p) with
            | false => rw [if_neg (by decide), bad]
            | true =>
              rw [if_pos rfl]
              by_cases h30 : (l.length : Int) > 30
              · rw [decide_eq_true h30, bad]
              · rw [decide_eq_false h30]
                unfold head_Lay.j0
                rw [if_neg (by decide)]
                dsimp only
                rw [if_pos (by omega)]
                cases hok : headOK l with
                | false => rw [rows_any k (by omega) l hl1 hok, Option.bind_some]; rfl
                | true => exact absurd ⟨hqq, hmm, hpp, hok, by omega, ea⟩ g
        · rw [if_neg hh, bad]
noncomputable def Reads (k : Nat) : List ByteArray → List PT → Prop
  | [], [] => True
  | p :: ps, x :: l => head_field.f k p = some (x.f0, x.f1, true) ∧ Reads k ps l
  | _, _ => False
theorem reads_row (k : Nat) (hk : 1100 ≤ k) : ∀ (l : List PT) (ps : List ByteArray), headOK l = true → ps.map os = l.map rowL → Reads k ps l
  | [], ps, _, h => by
    obtain rfl : ps = [] := by simpa using h
    trivial
  | x :: l, [], _, h => by simp at h
  | x :: l, p :: ps, hh, h => by
    rw [List.map_cons, List.map_cons] at h
    obtain ⟨h1, h2⟩ := List.cons.inj h
    have hx := headOK_mem hh (List.mem_cons_self (a := x) (l := l))
    have hh2 : headOK l = true := by unfold headOK at hh ⊢; rw [List.all_cons, Bool.and_eq_true] at hh; exact hh.2
    exact ⟨field_l p x hx.1 hx.2 h1 k hk, reads_row k hk l ps hh2 h2⟩
theorem reads_app (k : Nat) : ∀ (l : List PT) (ps : List ByteArray) (x : PT) (p : ByteArray), Reads k ps l → head_field.f k p = some (x.f0, x.f1, true) → Reads k (ps ++ [p]) (l ++ [x])
  | [], [], _, _, _, h => ⟨h, trivial⟩
  | [], _ :: _, _, _, h, _ => h.elim
  | _ :: _, [], _, _, h, _ => h.elim
  | _ :: l, _ :: ps, x, p, h, hx => ⟨h.1, reads_app k l ps x p h.2 hx⟩
theorem rows_r (k : Nat) (a b c : ByteArray) (q : List PT) : ∀ (l : List PT) (ps : List ByteArray) (acc : List PT), Reads k ps l → acc.length + l.length ≤ 1000 → head_read.go k ps (some (a, b, c, q, acc)) = some (some (some (a, b, c, q, acc ++ l)))
  | [], [], acc, _, _ => by rw [head_read.go, List.append_nil]
  | [], _ :: _, _, h, _ => h.elim
  | _ :: _, [], _, h, _ => h.elim
  | x :: l, p :: ps, acc, h, ha => by
    rw [List.length_cons] at ha
    simp only [head_read.go]
    rw [h.1, Option.bind_some]
    dsimp only
    rw [if_pos rfl, if_pos (by omega), rows_r k a b c q l ps _ h.2 (by rw [List.length_append, List.length_singleton]; omega), List.append_assoc]; rfl
theorem parse_gen (m h p : ByteArray) (q l : List PT) (rs : List (List UInt8)) (mm : isMeth (os m) = true) (pp : isPath (os p) = true) (qq : isQ q = true) (n30 : l.length ≤ 30) (ha : head_asked.f 1100 l = some (h, true)) (k : Nat) (hk : 3010 ≤ k)
    (hr : ∀ ps : List ByteArray, ps.map os = rs → Reads k ps l) (hf : ∀ x ∈ lineL (os m) (os p) q :: rs, (13 : UInt8) ∉ x ∧ x ≠ []) (s : ByteArray) (behind : List UInt8)
    (hs : os s = Lib.join (lineL (os m) (os p) q :: rs) [13, 10] ++ 13 :: 10 :: 13 :: 10 :: behind) (hl : (Lib.join (lineL (os m) (os p) q :: rs) [13, 10]).length + 4 ≤ 1000) (hz : s.size ≤ 100000) :
    head_Parse.f (k + 1) s = some (m, h, p, q, l, ((Lib.join (lineL (os m) (os p) q :: rs) [13, 10]).length : Int) + 4, 0) := by
  have hi : iE s = ((Lib.join (lineL (os m) (os p) q :: rs) [13, 10]).length : Int) := by
    unfold iE
    rw [hs, List.take_append, List.take_of_length_le (by omega)]
    have : (13 :: 10 :: 13 :: 10 :: behind).take (1000 - (Lib.join (lineL (os m) (os p) q :: rs) [13, 10]).length) = 13 :: 10 :: 13 :: 10 :: behind.take (1000 - (Lib.join (lineL (os m) (os p) q :: rs) [13, 10]).length - 4) := by
      rw [show 13 :: 10 :: 13 :: 10 :: behind = [13, 10, 13, 10] ++ behind from rfl, List.take_append, List.take_of_length_le (by simp; omega)]; rfl
    rw [this]
    exact idx_head _ _ _ hf
  have hb : os (s.extract 0 (Lib.join (lineL (os m) (os p) q :: rs) [13, 10]).length) = Lib.join (lineL (os m) (os p) q :: rs) [13, 10] := by rw [os_extract, List.drop_zero, Nat.sub_zero, hs, List.take_left]
  have hw := size_os (s.extract 0 (Lib.join (lineL (os m) (os p) q :: rs) [13, 10]).length)
  rw [hb] at hw
  have hp2 : (piecesM ⟨#[13, 10]⟩ (s.extract 0 (Lib.join (lineL (os m) (os p) q :: rs) [13, 10]).length)).map os = lineL (os m) (os p) q :: rs := piecesM_j _ _ _ hb (fun x hx => (hf x hx).1)
  have hread : head_read.f k (s.extract 0 (Lib.join (lineL (os m) (os p) q :: rs) [13, 10]).length) = some (m, h, p, q, l, true) := by
    obtain ⟨p0, ps, e⟩ : ∃ p0 ps, piecesM ⟨#[13, 10]⟩ (s.extract 0 (Lib.join (lineL (os m) (os p) q :: rs) [13, 10]).length) = p0 :: ps := List.exists_cons_of_ne_nil (fun e => by rw [e] at hp2; simp at hp2)
    rw [e, List.map_cons] at hp2
    obtain ⟨h1, h2⟩ := List.cons.inj hp2
    unfold head_read.f
    rw [if_pos (by omega), e]
    simp only [head_read.go]
    rw [first_l p0 m p q mm pp qq h1 k hk, Option.bind_some]
    dsimp only
    rw [if_pos rfl, rows_r k _ _ _ _ l ps [] (hr ps h2) (by simp; omega), Option.bind_some, List.nil_append]
    simp only [head_read.end_]
    rw [asked_up ha (by omega), Option.bind_some]
    dsimp only
    rw [if_pos rfl, if_pos n30]
  rw [parse_eq s hz, hi, if_neg (by omega), Int.toNat_natCast, hread, Option.bind_some]
  dsimp only
  rw [if_pos rfl]
theorem join_snoc (sep b : List UInt8) (a : List UInt8) (r : List (List UInt8)) : Lib.join (a :: (r ++ [b])) sep = Lib.join (a :: r) sep ++ (sep ++ b) := by
  rw [Lib.join_cons, Lib.join_cons]
  unfold Lib.joinTail
  rw [List.map_append, List.flatten_append, List.append_assoc]
  simp
theorem parse_t (s : ByteArray) (hs : s.size ≤ 100000) (k : Nat) (hk : 2011 ≤ k) : ∃ r, head_Parse.f k s = some r := by
  obtain ⟨k, rfl⟩ : ∃ m, k = m + 1 := ⟨k - 1, by omega⟩
  rw [parse_eq s hs]
  by_cases hneg : iE s < 0
  · rw [if_pos hneg]; exact ⟨_, rfl⟩
  · obtain ⟨i, hi⟩ : ∃ i : Nat, iE s = (i : Int) := ⟨(iE s).toNat, by omega⟩
    obtain ⟨q1, q2, q3, q4⟩ := iE_at hi
    obtain ⟨r1, r2, r3, r4, r5, r6, er, l4, l5⟩ := read_h (s.extract 0 i) (by rw [ByteArray.size_extract]; omega) k (by omega)
    rw [if_neg hneg, hi, Int.toNat_natCast, er, Option.bind_some]
    split <;> exact ⟨_, rfl⟩
theorem asked_more {l : List PT} {x : PT} {h : ByteArray} (hl : Small 31 l) (hx : (os x.f0).length ≤ 100 ∧ (os x.f1).length ≤ 100) (hn : eqN x.f0 ⟨#[104, 111, 115, 116]⟩ = false) (ha : head_asked.f 1100 l = some (h, true)) : head_asked.f 1100 (l ++ [x]) = some (h, true) := by
  have hl2 : Small 1000 (l ++ [x]) := ⟨by have := hl.1; rw [List.length_append, List.length_singleton]; omega, fun y hy => by
    rcases List.mem_append.1 hy with hy | hy
    · exact hl.2 y hy
    · rw [List.mem_singleton.1 hy]; exact hx⟩
  have h1 := all_loop2 ⟨#[104, 111, 115, 116]⟩ (by decide) l (hl.mono (by decide)) l.length 0 1100 [] (by omega) (by omega) (by simp) (by have := hl.1; omega)
  have h2 := all_loop2 ⟨#[104, 111, 115, 116]⟩ (by decide) (l ++ [x]) hl2 (l ++ [x]).length 0 1100 [] (by omega) (by omega) (by simp) (by have := hl.1; rw [List.length_append, List.length_singleton]; omega)
  have e : allL ⟨#[104, 111, 115, 116]⟩ (l ++ [x]) = allL ⟨#[104, 111, 115, 116]⟩ l := by
    unfold allL
    rw [List.filter_append, List.filter_cons, hn, if_neg (by decide), List.filter_nil, List.append_nil]
  unfold head_asked.f pairs_All.f at ha ⊢
  rw [show (0 : Int) = ((0 : Nat) : Int) from rfl] at ha ⊢
  rw [h1] at ha
  rw [h2, List.drop_zero, List.nil_append, e]
  rw [List.drop_zero, List.nil_append] at ha
  exact ha
end Go.Proofs.YtpmllmfamjpinaaDoor.L
