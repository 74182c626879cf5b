import Derived.Test.YtpmllmfamjpinaaDoorPx0
import Derived.Test.YtpmllmfamjpinaaDoorPx2
import Derived.Test.YtpmllmfamjpinaaDoorPx3
import Derived.Test.YtpmllmfamjpinaaDoorPx4
import Derived.Test.YtpmllmfamjpinaaDoorPx5
import Derived.Test.YtpmllmfamjpinaaDoorPx6
import Derived.Test.YtpmllmfamjpinaaDoorPx7
import Derived.Test.YtpmllmfamjpinaaDoorWWords
import Derived.Laws.Strings
import Derived.Laws.Runes
import Derived.Lib.IndexLaws
namespace Go.Proofs.YtpmllmfamjpinaaDoor.L
open Go Go.RowKit Go.Proofs.YtpmllmfamjpinaaDoorW.PrintWords

abbrev os (s : ByteArray) : List UInt8 := s.data.toList

theorem toList_os (s : ByteArray) : s.toList = os s := ByteArray.toList_eq s
theorem size_os (s : ByteArray) : s.size = (os s).length := (Array.length_toList (xs := s.data)).symm
theorem os_inj {s t : ByteArray} (h : os s = os t) : s = t := by
  cases s with | mk a => cases t with | mk b =>
  have : a = b := Array.toList_inj.1 h
  rw [this]
theorem os_mk (l : List UInt8) : os (⟨l.toArray⟩ : ByteArray) = l := rfl
theorem os_append (s t : ByteArray) : os (s ++ t) = os s ++ os t := by
  simp [os, ByteArray.data_append]
theorem os_extract (s : ByteArray) (a b : Nat) : os (s.extract a b) = ((os s).drop a).take (b - a) := by
  simp [os, ByteArray.data_extract, Array.toList_extract, List.extract]
theorem bt_os (s : ByteArray) (i : Nat) : bt s (i : Int) = (((os s)[i]?.getD 0).toNat : Int) := by
  unfold bt
  have hs := size_os s
  by_cases h : ((i : Nat) : Int).toNat < s.size
  · rw [dif_pos h]
    have h' : i < (os s).length := by simp at h; omega
    rw [List.getElem?_eq_getElem h']
    rfl
  · rw [dif_neg h]
    have h' : (os s).length ≤ i := by simp at h; omega
    rw [List.getElem?_eq_none h']
    rfl
theorem wrap64_id {x : Int} (h1 : -9223372036854775808 ≤ x) (h2 : x ≤ 9223372036854775807) : wrap64 x = x := by unfold wrap64; omega
end Go.Proofs.YtpmllmfamjpinaaDoor.L
namespace Go.Proofs.YtpmllmfamjpinaaDoor.L
open Go Go.RowKit Go.Proofs.YtpmllmfamjpinaaDoor.P Go.Proofs.YtpmllmfamjpinaaDoorW.PrintWords Go.Proofs.YtpmllmfamjpinaaDoorW.PrintLast

noncomputable def pok (c : UInt8) : Bool := decide (33 ≤ c.toNat) && (decide (c.toNat ≤ 126) && (c.toNat != 63 && c.toNat != 35))
noncomputable def isPath (l : List UInt8) : Bool := l.all pok && (l.head? == some 47 && decide (l.length ≤ 60))
theorem hasPrefix (s p : ByteArray) : strings_HasPrefix.f s p = some ((os p).isPrefixOf (os s)) := by
  have hs := size_os s
  have hp := size_os p
  unfold strings_HasPrefix.f stringslite_HasPrefix.f
  by_cases h : (s.size : Int) ≥ (p.size : Int)
  · rw [if_pos h, if_pos (by omega), if_pos (by omega), Option.bind_some]
    congr 1
    rw [toList_os, toList_os, os_extract, List.drop_zero, Nat.sub_zero, hp, Bool.eq_iff_iff, beq_iff_eq, List.isPrefixOf_iff_prefix]
    constructor
    · intro h
      rw [← h]
      exact List.take_prefix _ _
    · intro h
      exact (List.prefix_iff_eq_take.1 h).symm
  · rw [if_neg h, Option.bind_some]
    congr 1
    symm
    rw [Bool.eq_false_iff]
    intro hc
    have := (List.isPrefixOf_iff_prefix.1 hc).length_le
    omega
theorem path_is (s : ByteArray) : path_Is.f s = some (isPath (os s)) := by
  have hs := size_os s
  unfold path_Is.f isPath
  by_cases h : (os s).all path_Is.ok = true
  · rw [if_pos h, hasPrefix, Option.bind_some]
    have h2 : (os s).all pok = true := h
    rw [h2]
    have h3 : (os (⟨#[47]⟩ : ByteArray)).isPrefixOf (os s) = ((os s).head? == some 47) := by
      show [47].isPrefixOf (os s) = _
      cases os s with
      | nil => rfl
      | cons a r =>
        show (47 == a && true) = (some a == some 47)
        by_cases ha : a = 47
        · rw [ha]; rfl
        · rw [Bool.and_true, beq_eq_false_iff_ne.2 (Ne.symm ha), beq_eq_false_iff_ne.2 (fun h => ha (Option.some.inj h))]
    rw [h3]
    cases (os s).head? == some 47
    · rfl
    · rw [if_pos rfl, Bool.true_and, Bool.true_and]
      congr 1
      exact decide_eq_decide.2 (by omega)
  · rw [if_neg h]
    have h2 : (os s).all pok = false := by rw [Bool.eq_false_iff]; exact h
    rw [h2]
    rfl

end Go.Proofs.YtpmllmfamjpinaaDoor.L
namespace Go.Proofs.YtpmllmfamjpinaaDoor.L
open Go Go.RowKit Go.Proofs.YtpmllmfamjpinaaDoor.P Go.Proofs.YtpmllmfamjpinaaDoorW.PrintWords Go.Proofs.YtpmllmfamjpinaaDoorW.PrintLast

abbrev PT := S35
noncomputable def nb (s : ByteArray) : List UInt8 := (os s).map dns_Fold.b
noncomputable def eqN (a b : ByteArray) : Bool := nb a == nb b
noncomputable def Small (m : Nat) (l : List PT) : Prop := l.length ≤ m ∧ ∀ x ∈ l, (os x.f0).length ≤ 100 ∧ (os x.f1).length ≤ 100
theorem Small.mono {m m' : Nat} {l : List PT} (h : Small m l) (hm : m ≤ m') : Small m' l := ⟨Nat.le_trans h.1 hm, h.2⟩
theorem Small.filter {m : Nat} {l : List PT} (h : Small m l) (p : PT → Bool) : Small m (l.filter p) := ⟨Nat.le_trans (List.length_filter_le _ _) h.1, fun x hx => h.2 x (List.mem_filter.1 hx).1⟩

theorem rd_at (l : List PT) (i : Nat) (h : i < l.length) : rd_T35 l (i : Int) = l[i] := by
  unfold rd_T35
  rw [Int.toNat_natCast, getD_at _ _ h]
theorem fold_p (s : ByteArray) (h : (os s).length ≤ 1000) : dns_Fold.f s = some ⟨(nb s).toArray⟩ := by
  have hs := size_os s
  unfold dns_Fold.f
  rw [if_pos (by omega)]
  rfl
theorem same_p (a b : ByteArray) (ha : (os a).length ≤ 1000) (hb : (os b).length ≤ 1000) : pairs_Same.f a b = some (eqN a b) := by
  unfold pairs_Same.f eqN
  rw [fold_p a ha, Option.bind_some, fold_p b hb, Option.bind_some, toList_os, toList_os]
theorem wrapS {i : Nat} (h : i ≤ 100000) : wrap64 ((i : Int) + 1) = ((i + 1 : Nat) : Int) := by rw [wrap64_id (by omega) (by omega)]; omega
noncomputable def allL (n : ByteArray) (l : List PT) : List ByteArray := (l.filter fun x => eqN x.f0 n).map fun x => x.f1
end Go.Proofs.YtpmllmfamjpinaaDoor.L
namespace Go.Proofs.YtpmllmfamjpinaaDoor.L
open Go Go.RowKit Go.Proofs.YtpmllmfamjpinaaDoor.P Go.Proofs.YtpmllmfamjpinaaDoorW.PrintWords Go.Proofs.YtpmllmfamjpinaaDoorW.PrintLast

end Go.Proofs.YtpmllmfamjpinaaDoor.L
namespace Go.Proofs.YtpmllmfamjpinaaDoor.L
open Go Go.RowKit Go.Proofs.YtpmllmfamjpinaaDoor.P Go.Proofs.YtpmllmfamjpinaaDoorW.PrintWords Go.Proofs.YtpmllmfamjpinaaDoorW.PrintLast

noncomputable def marks : List UInt8 := [33, 35, 36, 37, 38, 39, 42, 43, 45, 46, 94, 95, 96, 124, 126]
noncomputable def tok (c : UInt8) : Bool := (decide (97 ≤ c.toNat ||| 32) && decide (c.toNat ||| 32 ≤ 122)) || ((decide (48 ≤ c.toNat) && decide (c.toNat ≤ 57)) || marks.any (· == c))
theorem bits_or : ∀ n : Fin 256, Go.bits .or .u8 ((n : Nat) : Int) 32 = (((n : Nat) ||| 32 : Nat) : Int) := by decide +kernel
theorem bits_or' (c : UInt8) : Go.bits .or .u8 ((c.toNat : Nat) : Int) 32 = ((c.toNat ||| 32 : Nat) : Int) := bits_or ⟨c.toNat, c.toNat_lt⟩
noncomputable def isTok (l : List UInt8) : Bool := l.all tok && (decide (l ≠ []) && decide (l.length ≤ 40))
theorem bt_c {s : ByteArray} {i : Nat} (h : i < (os s).length) : bt s (i : Int) = (((os s)[i]'h).toNat : Int) := by
  rw [bt_os, List.getElem?_eq_getElem h]; rfl
theorem fin_tok (s : ByteArray) : (if os s = ([] : List UInt8) then (some false : Option Bool) else some (decide ((s.size : Int) ≤ 40))) = some (decide (os s ≠ []) && decide ((os s).length ≤ 40)) := by
  have hsz := size_os s
  by_cases h : os s = []
  · rw [if_pos h, h]; rfl
  · rw [if_neg h, show decide (os s ≠ []) = true from decide_eq_true h, Bool.true_and]
    congr 1
    rw [decide_eq_decide]; omega
theorem tok_p_loop (s : ByteArray) (hs : (os s).length ≤ 1000) : ∀ (n i k : Nat), (os s).length - i ≤ n → i ≤ (os s).length → n + 1 ≤ k → pairs_Token.l0 k s (s.size : Int) (i : Int) = some (((os s).drop i).all tok && (decide (os s ≠ []) && decide ((os s).length ≤ 40))) := by
  have hsz := size_os s
  intro n
  induction n with
  | zero =>
    intro i k h1 h2 h3
    obtain ⟨k, rfl⟩ : ∃ m, k = m + 1 := ⟨k - 1, by omega⟩
    rw [pairs_Token.l0, if_neg (by omega), List.drop_eq_nil_of_le (by omega), toList_os, fin_tok]; rfl
  | succ n ih =>
    intro i k h1 h2 h3
    obtain ⟨k, rfl⟩ : ∃ m, k = m + 1 := ⟨k - 1, by omega⟩
    by_cases hi : i < (os s).length
    · rw [pairs_Token.l0, if_pos (by omega), if_pos (by omega), if_pos (by omega), bt_c hi, bits_or', wrapS (by omega), ih (i + 1) k (by omega) (by omega) (by omega), List.drop_eq_getElem_cons hi, List.all_cons]
      generalize (os s)[i]'hi = c
      rw [Bool.and_assoc]
      generalize (((os s).drop (i + 1)).all tok && (decide (os s ≠ []) && decide ((os s).length ≤ 40))) = rest
      have hf : ∀ c : UInt8, strings_IndexByte.f ⟨#[33, 35, 36, 37, 38, 39, 42, 43, 45, 46, 94, 95, 96, 124, 126]⟩ ((c.toNat : Nat) : Int) = some (firstIdx ⟨#[33, 35, 36, 37, 38, 39, 42, 43, 45, 46, 94, 95, 96, 124, 126]⟩ c) := fun c => by
        unfold strings_IndexByte.f stringslite_IndexByte.f
        rw [Option.bind_some, Int.toNat_natCast, show c.toNat.toUInt8 = c from UInt8.ofNat_toNat]
      have hm := firstIdx_nonneg ⟨#[33, 35, 36, 37, 38, 39, 42, 43, 45, 46, 94, 95, 96, 124, 126]⟩ c
      have hmm : (⟨#[33, 35, 36, 37, 38, 39, 42, 43, 45, 46, 94, 95, 96, 124, 126]⟩ : ByteArray).data.toList = marks := rfl
      rw [hmm] at hm
      have ht : tok c = ((decide (97 ≤ c.toNat ||| 32) && decide (c.toNat ||| 32 ≤ 122)) || ((decide (48 ≤ c.toNat) && decide (c.toNat ≤ 57)) || marks.any (· == c))) := rfl
      rw [ht, ← hm, hf]
      simp only [Option.bind_some]
      generalize firstIdx ⟨#[33, 35, 36, 37, 38, 39, 42, 43, 45, 46, 94, 95, 96, 124, 126]⟩ c = x
      generalize c.toNat ||| 32 = y
      generalize c.toNat = z
      by_cases a1 : (97 : Int) ≤ (y : Int) <;> by_cases a2 : (y : Int) ≤ 122 <;> by_cases a3 : (48 : Int) ≤ (z : Int) <;> by_cases a4 : (z : Int) ≤ 57 <;> by_cases a5 : 0 ≤ x <;> simp [a1, a2, a3, a4, a5, ge_iff_le] <;> omega
    · rw [pairs_Token.l0, if_neg (by omega), List.drop_eq_nil_of_le (by omega), toList_os, fin_tok]; rfl
theorem tok_p (s : ByteArray) (hs : (os s).length ≤ 1000) (k : Nat) (hk : 1100 ≤ k) : pairs_Token.f k s = some (isTok (os s)) := by
  have := tok_p_loop s hs (os s).length 0 k (by omega) (by omega) (by omega)
  rw [List.drop_zero] at this
  exact this
end Go.Proofs.YtpmllmfamjpinaaDoor.L
namespace Go.Proofs.YtpmllmfamjpinaaDoor.L
open Go Go.RowKit Go.Proofs.YtpmllmfamjpinaaDoor.P Go.Proofs.YtpmllmfamjpinaaDoorW.PrintWords Go.Proofs.YtpmllmfamjpinaaDoorW.PrintLast

noncomputable def big (c : UInt8) : Bool := decide (65 ≤ c.toNat) && decide (c.toNat ≤ 90)
noncomputable def isMeth (l : List UInt8) : Bool := decide (l ≠ []) && (decide (l.length ≤ 10) && l.all big)
theorem meth_p (s : ByteArray) : rule_Method.f s = some (isMeth (os s)) := by
  have hs := size_os s
  unfold rule_Method.f isMeth
  rw [toList_os]
  by_cases h : os s = []
  · rw [if_pos h, h]; rfl
  · rw [if_neg h, decide_eq_true h, Bool.true_and]
    by_cases h2 : (os s).length ≤ 10
    · rw [if_pos (by omega), decide_eq_true h2, Bool.true_and]
      unfold strings_IndexFunc_with_rule_Method_1.f
      rw [Option.bind_some, idxRune_neg _ (fun r hr => by unfold strings_IndexFunc_with_rule_Method_1.p; rw [decide_eq_true (show 90 < r by omega), Bool.or_true])]
      congr 1
      rw [Bool.eq_iff_iff, List.all_eq_true, List.all_eq_true]
      have hb : ∀ c : UInt8, (!strings_IndexFunc_with_rule_Method_1.p c.toNat) = big c := fun c => by
        unfold strings_IndexFunc_with_rule_Method_1.p big
        by_cases a : c.toNat < 65
        · rw [decide_eq_true a, decide_eq_false (show ¬ 65 ≤ c.toNat by omega)]; rfl
        · rw [decide_eq_false a, decide_eq_true (show 65 ≤ c.toNat by omega)]
          by_cases b : 90 < c.toNat
          · rw [decide_eq_true b, decide_eq_false (show ¬ c.toNat ≤ 90 by omega)]; rfl
          · rw [decide_eq_false b, decide_eq_true (show c.toNat ≤ 90 by omega)]; rfl
      exact ⟨fun h c hc => by rw [← hb]; exact h c hc, fun h c hc => by rw [hb]; exact h c hc⟩
    · rw [if_neg (by omega), decide_eq_false h2, Bool.false_and]
noncomputable def isQ (l : List PT) : Bool := l.all (fun x => decide (os x.f0 ≠ []) && (decide ((os x.f0).length ≤ 40) && decide ((os x.f1).length ≤ 40))) && decide (l.length ≤ 20)
theorem q_p_loop (l : List PT) (hl : l.length ≤ 1000) : ∀ (n i k : Nat), l.length - i ≤ n → i ≤ l.length → n + 1 ≤ k → query_May.l0 k l l (l.length : Int) (i : Int) = some ((l.drop i).all (fun x => decide (os x.f0 ≠ []) && (decide ((os x.f0).length ≤ 40) && decide ((os x.f1).length ≤ 40))) && decide (l.length ≤ 20)) := by
  have hend : ∀ k, query_May.l0 (k + 1) l l (l.length : Int) ((l.length : Nat) : Int) = some (decide (l.length ≤ 20)) := fun k => by
    rw [query_May.l0, if_neg (by omega)]
    congr 1
    rw [decide_eq_decide]; omega
  intro n
  induction n with
  | zero =>
    intro i k h1 h2 h3
    obtain ⟨k, rfl⟩ : ∃ m, k = m + 1 := ⟨k - 1, by omega⟩
    obtain rfl : i = l.length := by omega
    rw [hend, List.drop_length]; rfl
  | succ n ih =>
    intro i k h1 h2 h3
    obtain ⟨k, rfl⟩ : ∃ m, k = m + 1 := ⟨k - 1, by omega⟩
    by_cases hi : i < l.length
    · have z0 := size_os (l[i]'hi).f0
      have z1 := size_os (l[i]'hi).f1
      rw [query_May.l0, if_pos (by omega), if_pos (by omega), if_pos (by omega), rd_at l i hi, wrapS (by omega), ih (i + 1) k (by omega) (by omega) (by omega), List.drop_eq_getElem_cons hi, List.all_cons, toList_os]
      by_cases a1 : os (l[i]'hi).f0 = []
      · rw [if_pos a1, show decide (os (l[i]'hi).f0 ≠ []) = false from decide_eq_false (fun h => h a1)]; rfl
      · rw [if_neg a1, show decide (os (l[i]'hi).f0 ≠ []) = true from decide_eq_true a1]
        by_cases a2 : (os (l[i]'hi).f0).length ≤ 40
        · rw [if_neg (by omega), decide_eq_true a2]
          by_cases a3 : (os (l[i]'hi).f1).length ≤ 40
          · rw [if_neg (by omega), decide_eq_true a3]; rfl
          · rw [if_pos (by omega), decide_eq_false a3]; rfl
        · rw [if_pos (by omega), decide_eq_false a2]; rfl
    · obtain rfl : i = l.length := by omega
      rw [hend, List.drop_length]; rfl
theorem q_p (l : List PT) (hl : l.length ≤ 1000) (k : Nat) (hk : 1100 ≤ k) : query_May.f k l = some (isQ l) := by
  have := q_p_loop l hl l.length 0 k (by omega) (by omega) (by omega)
  rw [List.drop_zero] at this
  exact this
theorem drop_take {α : Type} {l : List α} {i j : Nat} (hj : j < i) (hi : i < l.length) : (l.take i).drop j = (l[j]'(by omega)) :: (l.take i).drop (j + 1) := by
  rw [List.drop_eq_getElem_cons (by rw [List.length_take]; omega), List.getElem_take]
end Go.Proofs.YtpmllmfamjpinaaDoor.L
namespace Go.Proofs.YtpmllmfamjpinaaDoor.L
open Go Go.RowKit Go.Proofs.YtpmllmfamjpinaaDoor.P Go.Proofs.YtpmllmfamjpinaaDoorW.PrintWords Go.Proofs.YtpmllmfamjpinaaDoorW.PrintLast

noncomputable def nm (l : List UInt8) : Bool := decide (l.length ≤ 60) && (pieces 46 ⟨l.toArray⟩).all labB
theorem name_p (s : ByteArray) : dns_Name.f s = some (nm (os s)) := by
  unfold dns_Name.f nm
  rw [size_os s]
end Go.Proofs.YtpmllmfamjpinaaDoor.L
namespace Go.Proofs.YtpmllmfamjpinaaDoor.L
open Go Go.RowKit Go.Proofs.YtpmllmfamjpinaaDoor.P Go.Proofs.YtpmllmfamjpinaaDoorW.PrintWords Go.Proofs.YtpmllmfamjpinaaDoorW.PrintLast

end Go.Proofs.YtpmllmfamjpinaaDoor.L
namespace Go.Proofs.YtpmllmfamjpinaaDoor.L
open Go Go.RowKit Go.Proofs.YtpmllmfamjpinaaDoor.P Go.Proofs.YtpmllmfamjpinaaDoorW.PrintWords Go.Proofs.YtpmllmfamjpinaaDoorW.PrintLast

noncomputable def lastN (c : Int) (l : List UInt8) : Nat → Int
  | 0 => -1
  | n + 1 => if ((l[n]?.getD 0).toNat : Int) = c then (n : Int) else lastN c l n
theorem lastN_bound (c : Int) (l : List UInt8) : ∀ n, -1 ≤ lastN c l n ∧ lastN c l n < n
  | 0 => by rw [lastN]; omega
  | n + 1 => by
    have := lastN_bound c l n
    rw [lastN]; split <;> omega
theorem last_loop (s : ByteArray) (c : Int) (hs : (os s).length ≤ 1000) : ∀ (n k : Nat), n ≤ (os s).length → n + 1 ≤ k → bytealg_LastIndexByteString.l0 k s c ((n : Int) - 1) = some (lastN c (os s) n) := by
  have hz := size_os s
  intro n
  induction n with
  | zero =>
    intro k h1 h2
    obtain ⟨k, rfl⟩ : ∃ m, k = m + 1 := ⟨k - 1, by omega⟩
    rw [bytealg_LastIndexByteString.l0, if_neg (by omega), lastN]
  | succ n ih =>
    intro k h1 h2
    obtain ⟨k, rfl⟩ : ∃ m, k = m + 1 := ⟨k - 1, by omega⟩
    rw [bytealg_LastIndexByteString.l0, if_pos (by omega), if_pos (by omega), if_pos (by omega), show ((n + 1 : Nat) : Int) - 1 = (n : Int) by omega, bt_os, lastN, wrap64_id (by omega) (by omega), ih k (by omega) (by omega)]
    split <;> rfl
theorem last_p (s : ByteArray) (c : Int) (hs : (os s).length ≤ 1000) (k : Nat) (hk : 1002 ≤ k) : strings_LastIndexByte.f k s c = some (lastN c (os s) (os s).length) := by
  have hz := size_os s
  unfold strings_LastIndexByte.f bytealg_LastIndexByteString.f
  rw [wrap64_id (by omega) (by omega), hz, last_loop s c hs _ k (Nat.le_refl _) (by omega), Option.bind_some]
noncomputable def digits : List UInt8 := [48, 49, 50, 51, 52, 53, 54, 55, 56, 57]
noncomputable def portL (l : List UInt8) : Bool := decide (1 ≤ l.length) && (decide (l.length ≤ 5) && (Go.Lib.trimS l digits == []))
theorem port_p (s : ByteArray) (hs : (os s).length ≤ 1000) : host_port.f s = some (portL (os s)) := by
  have hz := size_os s
  have ht : strings_Trim.f s ⟨#[48, 49, 50, 51, 52, 53, 54, 55, 56, 57]⟩ = some ⟨(Go.Lib.trimS (os s) digits).toArray⟩ := by
    unfold strings_Trim.f
    rw [if_pos (by omega), if_pos (by decide), if_pos (by decide)]; rfl
  unfold host_port.f portL
  by_cases c1 : 1 ≤ (os s).length
  · rw [if_pos (by omega), decide_eq_true c1]
    by_cases c2 : (os s).length ≤ 5
    · rw [if_pos (by omega), decide_eq_true c2, ht, Option.bind_some, toList_os]; rfl
    · rw [if_neg (by omega), decide_eq_false c2]; rfl
  · rw [if_neg (by omega), decide_eq_false c1]; rfl
theorem suffix_p (s p : ByteArray) (hl : s.size ≤ 9223372036854775807) : stringslite_HasSuffix.f s p = some ((os p).isSuffixOf (os s)) := by
  have hs := size_os s
  have hp := size_os p
  unfold stringslite_HasSuffix.f
  by_cases h : (s.size : Int) ≥ (p.size : Int)
  · have hw : wrap64 ((s.size : Int) - (p.size : Int)) = ((s.size - p.size : Nat) : Int) := by rw [wrap64_id (by omega) (by omega)]; omega
    rw [if_pos h, hw, if_pos (by omega), if_pos (by omega)]
    congr 1
    rw [toList_os, toList_os, os_extract, Int.toNat_natCast, Bool.eq_iff_iff, beq_iff_eq, List.isSuffixOf_iff_suffix, List.take_of_length_le (by simp)]
    rw [List.suffix_iff_eq_drop, ← hs, ← hp]
    exact eq_comm
  · rw [if_neg h]
    congr 1
    symm
    rw [Bool.eq_false_iff]
    intro hc
    have := (List.isSuffixOf_iff_suffix.1 hc).length_le
    omega
theorem trimSuffix_p (s p : ByteArray) (hs : (os s).length ≤ 1000) : ∃ t, strings_TrimSuffix.f s p = some t ∧ os t = if (os p).isSuffixOf (os s) = true then (os s).take ((os s).length - (os p).length) else os s := by
  have hz := size_os s
  have hz2 := size_os p
  unfold strings_TrimSuffix.f stringslite_TrimSuffix.f
  rw [suffix_p s p (by omega), Option.bind_some]
  cases hp : (os p).isSuffixOf (os s) with
  | true =>
    have := (List.isSuffixOf_iff_suffix.1 hp).length_le
    have hw : wrap64 ((s.size : Int) - (p.size : Int)) = ((s.size - p.size : Nat) : Int) := by rw [wrap64_id (by omega) (by omega)]; omega
    rw [if_pos rfl, if_pos rfl, hw, if_pos (by omega), if_pos (by omega), Option.bind_some, Int.toNat_natCast]
    exact ⟨_, rfl, by rw [os_extract, List.drop_zero, Nat.sub_zero, hz, hz2]⟩
  | false =>
    rw [if_neg (by decide), if_neg (by decide), Option.bind_some]
    exact ⟨_, rfl, rfl⟩
noncomputable def noPort (f : List UInt8) : List UInt8 := if (decide (0 ≤ lastN 58 f f.length) && portL (f.drop ((lastN 58 f f.length).toNat + 1))) = true then f.take (lastN 58 f f.length).toNat else f
noncomputable def noDot (g : List UInt8) : List UInt8 := if [46].isSuffixOf g = true then g.take (g.length - 1) else g
noncomputable def ofH (l : List UInt8) : List UInt8 × Int := if nm (noDot (noPort (l.map dns_Fold.b))) = true then (noDot (noPort (l.map dns_Fold.b)), 0) else ([], 2)
theorem of_j1 (x : ByteArray) (hx : (os x).length ≤ 1000) (k : Nat) : ∃ t, host_Of.j1 (k + 1) x = some (t, if nm (noDot (os x)) = true then 0 else 2) ∧ os t = if nm (noDot (os x)) = true then noDot (os x) else [] := by
  obtain ⟨t, h1, h2⟩ := trimSuffix_p x ⟨#[46]⟩ hx
  have h3 : os t = noDot (os x) := h2
  rw [host_Of.j1, h1, Option.bind_some, name_p, Option.bind_some, h3]
  cases nm (noDot (os x)) with
  | true => exact ⟨_, rfl, h3⟩
  | false => exact ⟨_, rfl, rfl⟩
theorem of_h (s : ByteArray) (hs : (os s).length ≤ 100) (k : Nat) (hk : 1010 ≤ k) : ∃ t, host_Of.f k s = some (t, (ofH (os s)).2) ∧ os t = (ofH (os s)).1 := by
  obtain ⟨k, rfl⟩ : ∃ m, k = m + 2 := ⟨k - 2, by omega⟩
  obtain ⟨F, hF⟩ : ∃ F : ByteArray, F = ⟨(nb s).toArray⟩ := ⟨_, rfl⟩
  have hF1 : os F = (os s).map dns_Fold.b := by rw [hF]; rfl
  have hF2 : (os F).length ≤ 100 := by rw [hF1, List.length_map]; exact hs
  have hz := size_os F
  have hb := lastN_bound 58 (os F) (os F).length
  have fin : ∀ x : ByteArray, (os x).length ≤ 1000 → os x = noPort (os F) → ∃ t, host_Of.j1 (k + 1) x = some (t, (ofH (os s)).2) ∧ os t = (ofH (os s)).1 := fun x hx e => by
    obtain ⟨t, h1, h2⟩ := of_j1 x hx k
    refine ⟨t, ?_, ?_⟩
    · rw [h1, e, hF1]; unfold ofH; split <;> rfl
    · rw [h2, e, hF1]; unfold ofH; split <;> rfl
  unfold host_Of.f
  rw [fold_p s (by omega), ← hF, Option.bind_some, last_p F 58 (by omega) _ (by omega), Option.bind_some]
  by_cases c : 0 ≤ lastN 58 (os F) (os F).length
  · have e1 : os (F.extract (wrap64 (lastN 58 (os F) (os F).length + 1)).toNat F.size) = (os F).drop ((lastN 58 (os F) (os F).length).toNat + 1) := by
      rw [wrap64_id (by omega) (by omega), os_extract, List.take_of_length_le (by rw [List.length_drop]; omega)]
      congr 1; omega
    rw [if_pos c, if_pos (by rw [wrap64_id (by omega) (by omega)]; omega), if_pos (by rw [wrap64_id (by omega) (by omega)]; omega), port_p _ (by rw [e1, List.length_drop]; omega), e1, Option.bind_some, host_Of.j0]
    cases hp : portL ((os F).drop ((lastN 58 (os F) (os F).length).toNat + 1)) with
    | true =>
      rw [if_pos rfl, if_pos c, if_pos (by omega)]
      refine fin _ (by rw [os_extract, List.length_take]; omega) ?_
      unfold noPort
      rw [decide_eq_true c, hp, if_pos (show (true && true) = true from rfl), os_extract, List.drop_zero, Nat.sub_zero]
    | false =>
      rw [if_neg (by decide)]
      refine fin F (by omega) ?_
      unfold noPort
      rw [hp, Bool.and_false, if_neg (by decide)]
  · rw [if_neg c, host_Of.j0, if_neg (by decide)]
    refine fin F (by omega) ?_
    unfold noPort
    rw [decide_eq_false c, Bool.false_and, if_neg (by decide)]
end Go.Proofs.YtpmllmfamjpinaaDoor.L
namespace Go.Proofs.YtpmllmfamjpinaaDoor.L
open Go Go.RowKit Go.Proofs.YtpmllmfamjpinaaDoor.P Go.Proofs.YtpmllmfamjpinaaDoorW.PrintWords Go.Proofs.YtpmllmfamjpinaaDoorW.PrintLast
theorem upTo {β : Type} {F : Nat → Option β} (hm : ∀ k, LeO (F k) (F (k + 1))) {k j : Nat} {r : β} (h : F k = some r) (hk : k ≤ j) : F j = some r := by
  obtain ⟨n, rfl⟩ : ∃ n, j = k + n := ⟨j - k, by omega⟩
  clear hk
  induction n with
  | zero => exact h
  | succ n ih => exact hm _ _ ih
theorem index_c (s : ByteArray) (c : UInt8) (k : Nat) (hk : 1 ≤ k) : stringslite_Index.f k s ⟨#[c]⟩ = some (firstIdx s c) := by
  have h := index1 s c
  unfold strings_Index.f at h
  obtain ⟨t, h1, h2⟩ := Option.bind_eq_some_iff.1 h
  rw [Option.some.inj h2] at h1
  exact upTo (F := fun k => stringslite_Index.f k s ⟨#[c]⟩) (fun k => stringslite_Index.mono _ _ k) h1 hk
theorem cut_c (s : ByteArray) (c : UInt8) (hs : s.size ≤ 100000) (k : Nat) (hk : 1 ≤ k) : ∃ a b ok, strings_Cut.f k s ⟨#[c]⟩ = some (a, b, ok) ∧ a.size ≤ s.size ∧ b.size ≤ s.size := by
  unfold strings_Cut.f stringslite_Cut.f
  rw [index_c s c k hk, Option.bind_some]
  by_cases h : firstIdx s c ≥ 0
  · have hf := firstIdx_fit c s h
    have hw : wrap64 (firstIdx s c + ((⟨#[c]⟩ : ByteArray).size : Int)) = firstIdx s c + 1 := by show wrap64 (_ + 1) = _; rw [wrap64_id (by omega) (by omega)]
    rw [if_pos h, if_pos h, if_pos (by omega), hw, if_pos (by omega), if_pos (by omega), Option.bind_some]
    exact ⟨_, _, _, rfl, by rw [ByteArray.size_extract]; omega, by rw [ByteArray.size_extract]; omega⟩
  · rw [if_neg h, Option.bind_some]; exact ⟨_, _, _, rfl, Nat.le_refl _, Nat.zero_le _⟩
theorem cuts_size (ix : ByteArray → Int) (m : Nat) : ∀ (k : Nat) (s p : ByteArray), p ∈ cuts ix m k s → p.size ≤ s.size
  | 0, s, p, h => by
    rw [List.mem_singleton.1 (show p ∈ [s] from h)]; exact Nat.le_refl _
  | k + 1, s, p, h => by
    unfold cuts at h
    split at h
    · rw [List.mem_singleton.1 h]; exact Nat.le_refl _
    · rcases List.mem_cons.1 h with rfl | h
      · rw [ByteArray.size_extract]; omega
      · have := cuts_size ix m k _ p h
        rw [ByteArray.size_extract] at this; omega
theorem digits_ : ∀ n : Fin 256, (match query_digit.f ((n : Nat) : Int) with | some d => decide (-1 ≤ d) && decide (d < 16) | none => false) = true := by decide +kernel
theorem digit_p (s : ByteArray) (j : Nat) : ∃ d : Int, query_digit.f (bt s (j : Int)) = some d ∧ -1 ≤ d ∧ d < 16 := by
  rw [bt_os]
  generalize (os s)[j]?.getD 0 = c
  have := digits_ ⟨c.toNat, c.toNat_lt⟩
  simp only at this
  cases h : query_digit.f (c.toNat : Int) with
  | none => rw [h] at this; cases this
  | some d => rw [h] at this; simp only [Bool.and_eq_true, decide_eq_true_eq] at this; exact ⟨d, rfl, this.1, this.2⟩
theorem read_loop (s : ByteArray) (hs : s.size ≤ 100000) : ∀ (n i k : Nat) (acc : List Int), s.size - i ≤ n → i ≤ s.size → acc.length ≤ i → 2 * n + 2 ≤ k → ∃ t b, query_read.l0 k s acc (i : Int) = some (t, b) ∧ t.size ≤ s.size := by
  have hsz : ∀ acc : List Int, (strOfNums acc).size = acc.length := fun acc => by rw [size_os]; show (List.map _ acc).length = _; rw [List.length_map]
  intro n
  induction n with
  | zero =>
    intro i k acc h1 h2 h3 h4
    obtain ⟨k, rfl⟩ : ∃ m, k = m + 1 := ⟨k - 1, by omega⟩
    rw [query_read.l0, if_neg (by omega)]
    exact ⟨_, _, rfl, by rw [hsz]; omega⟩
  | succ n ih =>
    intro i k acc h1 h2 h3 h4
    obtain ⟨k, rfl⟩ : ∃ m, k = m + 2 := ⟨k - 2, by omega⟩
    rw [query_read.l0]
    by_cases hi : i < s.size
    · have w1 : wrap64 ((i : Int) + 1) = ((i + 1 : Nat) : Int) := by rw [wrap64_id (by omega) (by omega)]; omega
      have w2 : wrap64 ((i : Int) + 2) = ((i + 2 : Nat) : Int) := by rw [wrap64_id (by omega) (by omega)]; omega
      have w3 : wrap64 (((i + 2 : Nat) : Int) + 1) = ((i + 3 : Nat) : Int) := by rw [wrap64_id (by omega) (by omega)]; omega
      have bad : ∃ t b, query_read.j1 (k + 1) s acc (i : Int) true = some (t, b) ∧ t.size ≤ s.size := by
        rw [query_read.j1, if_pos rfl]; exact ⟨_, _, rfl, Nat.zero_le _⟩
      rw [if_pos (by omega), if_pos (by omega)]
      by_cases c1 : bt s (i : Int) = 43
      · rw [if_pos c1, if_pos (by omega), w1]
        exact ih (i + 1) (k + 1) _ (by omega) (by omega) (by rw [List.length_append, List.length_singleton]; omega) (by omega)
      · rw [if_neg c1]
        by_cases c2 : bt s (i : Int) = 37
        · rw [if_pos c2, w2]
          by_cases c3 : ((i + 2 : Nat) : Int) ≥ (s.size : Int)
          · rw [if_pos c3]; exact bad
          · obtain ⟨d1, e1, a1, b1⟩ := digit_p s (i + 1)
            obtain ⟨d2, e2, a2, b2⟩ := digit_p s (i + 2)
            rw [if_neg c3, w1, if_pos (by omega), if_pos (by omega), e1, Option.bind_some]
            by_cases c4 : d1 < 0
            · rw [if_pos c4]; exact bad
            · rw [if_neg c4, if_pos (by omega), if_pos (by omega), e2, Option.bind_some]
              by_cases c5 : d2 < 0
              · rw [decide_eq_true c5]; exact bad
              · rw [decide_eq_false c5, query_read.j1, if_neg (by decide), w1, if_pos (by omega), if_pos (by omega), e1, Option.bind_some, w2, if_pos (by omega), if_pos (by omega), e2, Option.bind_some, if_pos (by omega), w3]
                exact ih (i + 3) k _ (by omega) (by omega) (by rw [List.length_append, List.length_singleton]; omega) (by omega)
        · rw [if_neg c2, if_pos (by omega), w1]
          exact ih (i + 1) (k + 1) _ (by omega) (by omega) (by rw [List.length_append, List.length_singleton]; omega) (by omega)
    · rw [if_neg (by omega)]
      exact ⟨_, _, rfl, by rw [hsz]; omega⟩
theorem read_t (s : ByteArray) (hs : s.size ≤ 1000) (k : Nat) (hk : 2002 ≤ k) : ∃ t b, query_read.f k s = some (t, b) ∧ t.size ≤ s.size := by
  unfold query_read.f
  rw [if_pos (by omega), if_pos (by omega)]
  exact read_loop s (by omega) s.size 0 k [] (by omega) (by omega) (Nat.le_refl _) (by omega)
theorem go_t (k : Nat) (hk : 2002 ≤ k) : ∀ (ps : List ByteArray) (acc : List PT), (∀ p ∈ ps, p.size ≤ 1000) → acc.length + ps.length ≤ 1000 → ∃ o, query_Parse.go k ps acc = some o ∧ ∀ l, o = some l → l.length ≤ 1000
  | [], acc, _, h => ⟨some acc, rfl, fun l e => by cases e; simpa using h⟩
  | p :: ps, acc, hp, h => by
    obtain ⟨a, b, c, e1, s1, s2⟩ := cut_c p 61 (by have := hp p List.mem_cons_self; omega) k (by omega)
    have hp0 := hp p List.mem_cons_self
    obtain ⟨t1, g1, e2, _⟩ := read_t a (by omega) k hk
    obtain ⟨t2, g2, e3, _⟩ := read_t b (by omega) k hk
    simp only [query_Parse.go, e1, e2, e3, Option.bind_some]
    rw [List.length_cons] at h
    cases g1 with
    | false => exact ⟨none, by rw [if_neg (by decide)], fun l e => by cases e⟩
    | true =>
      cases g2 with
      | false => exact ⟨none, by rw [if_pos rfl, if_neg (by decide)], fun l e => by cases e⟩
      | true =>
        rw [if_pos rfl, if_pos rfl, if_pos (by omega)]
        exact go_t k hk ps _ (fun q hq => hp q (List.mem_cons_of_mem _ hq)) (by rw [List.length_append, List.length_singleton]; omega)
theorem parse_q (s : ByteArray) (hs : s.size ≤ 999) (k : Nat) (hk : 2002 ≤ k) : ∃ l e, query_Parse.f k s = some (l, e) ∧ l.length ≤ 1000 := by
  unfold query_Parse.f
  by_cases h : s.toList = ([] : List UInt8)
  · rw [if_pos h]; exact ⟨_, _, rfl, Nat.zero_le _⟩
  · have hl : (pieces 38 s).length ≤ s.size + 1 := cuts_length _ _ _ _
    obtain ⟨o, e, ho⟩ := go_t k hk (pieces 38 s) [] (fun p hp => by have := cuts_size _ _ _ _ p hp; omega) (by simp; omega)
    rw [if_neg h, if_pos (by omega), e, Option.bind_some]
    cases o with
    | none => exact ⟨_, _, rfl, Nat.zero_le _⟩
    | some l =>
      have hl2 := ho l rfl
      simp only [query_Parse.end_, q_p l hl2 k (by omega), Option.bind_some]
      cases isQ l with
      | true => exact ⟨_, _, by rw [if_pos rfl], hl2⟩
      | false => exact ⟨_, _, by rw [if_neg (by decide)], Nat.zero_le _⟩
theorem first_t (s : ByteArray) (hs : s.size ≤ 999) (k : Nat) (hk : 2010 ≤ k) : ∃ r1 r2 r3 r4 r6, head_first.f k s = some (r1, r2, r3, r4, [], r6) ∧ r4.length ≤ 1000 := by
  obtain ⟨k, rfl⟩ : ∃ m, k = m + 1 := ⟨k - 1, by omega⟩
  obtain ⟨a, b, c, e1, s1, s2⟩ := cut_c s 32 (by omega) (k + 1) (by omega)
  obtain ⟨a2, b2, c2, e2, s3, s4⟩ := cut_c b 32 (by omega) (k + 1) (by omega)
  have bad : ∀ x y, ∃ r1 r2 r3 r4 r6, head_first.j0 (k + 1) x y true ⟨#[]⟩ ⟨#[]⟩ ⟨#[]⟩ = some (r1, r2, r3, r4, [], r6) ∧ r4.length ≤ 1000 := fun x y => by
    rw [head_first.j0, if_pos rfl]; exact ⟨_, _, _, _, _, rfl, Nat.zero_le _⟩
  unfold head_first.f
  rw [e1, Option.bind_some, e2, Option.bind_some]
  by_cases h : b2.toList = ([72, 84, 84, 80, 47, 49, 46, 49] : List UInt8)
  · rw [if_pos h, meth_p, Option.bind_some]
    cases hm : isMeth (os a) with
    | false => exact bad _ _
    | true =>
      obtain ⟨a3, b3, c3, e3, s5, s6⟩ := cut_c a2 63 (by omega) k (by omega)
      obtain ⟨l, e, e4, hl⟩ := parse_q b3 (by omega) k (by omega)
      rw [Bool.not_true, head_first.j0, if_neg (by decide), e3, Option.bind_some, e4, Option.bind_some]
      by_cases h1 : e = 0
      · rw [if_pos h1, path_is, Option.bind_some]
        cases isPath (os a3) with
        | false => rw [if_neg (by decide)]; exact ⟨_, _, _, _, _, rfl, Nat.zero_le _⟩
        | true =>
          rw [if_pos rfl]
          cases c3 with
          | false => rw [if_neg Bool.false_ne_true]; exact ⟨_, _, _, _, _, rfl, hl⟩
          | true =>
            rw [if_pos rfl]
            by_cases h2 : b3.toList = ([] : List UInt8)
            · rw [if_pos h2]; exact ⟨_, _, _, _, _, rfl, Nat.zero_le _⟩
            · rw [if_neg h2]; exact ⟨_, _, _, _, _, rfl, hl⟩
      · rw [if_neg h1]; exact ⟨_, _, _, _, _, rfl, Nat.zero_le _⟩
  · rw [if_neg h]; exact bad _ _
theorem dropWhile_le {α : Type} (p : α → Bool) (l : List α) : (l.dropWhile p).length ≤ l.length := (List.dropWhile_sublist p).length_le
theorem trim_t (s : ByteArray) (hs : s.size ≤ 100000) : ∃ t, strings_Trim.f s ⟨#[32]⟩ = some t ∧ (os t).length ≤ (os s).length := by
  unfold strings_Trim.f
  rw [if_pos (by omega), if_pos (by decide), if_pos (by decide)]
  refine ⟨_, rfl, ?_⟩
  rw [os_mk]
  unfold Go.Lib.trimS Go.Lib.trimLeftS Go.Lib.trimRightS
  refine Nat.le_trans (dropWhile_le _ _) ?_
  rw [List.length_reverse]
  refine Nat.le_trans (dropWhile_le _ _) ?_
  rw [List.length_reverse]
  exact Nat.le_refl _
theorem val_loop (s : ByteArray) (hs : s.size ≤ 1000) : ∀ (n i k : Nat), s.size - i ≤ n → i ≤ s.size → n + 1 ≤ k → ∃ b, pairs_Value.l0 k s (s.size : Int) (i : Int) = some b ∧ (b = true → s.size ≤ 40) := by
  obtain ⟨t, ht, _⟩ := trim_t s (by omega)
  have hend : ∀ k i, ¬ (i : Int) < (s.size : Int) → ∃ b, pairs_Value.l0 (k + 1) s (s.size : Int) i = some b ∧ (b = true → s.size ≤ 40) := fun k i hi => by
    rw [pairs_Value.l0, if_neg hi]
    by_cases h : (s.size : Int) ≤ 40
    · rw [if_pos h, ht, Option.bind_some]; exact ⟨_, rfl, fun _ => by omega⟩
    · rw [if_neg h]; exact ⟨_, rfl, fun e => by cases e⟩
  intro n
  induction n with
  | zero =>
    intro i k h1 h2 h3
    obtain ⟨k, rfl⟩ : ∃ m, k = m + 1 := ⟨k - 1, by omega⟩
    exact hend k _ (by omega)
  | succ n ih =>
    intro i k h1 h2 h3
    obtain ⟨k, rfl⟩ : ∃ m, k = m + 1 := ⟨k - 1, by omega⟩
    by_cases hi : i < s.size
    · rw [pairs_Value.l0, if_pos (by omega), if_pos (by omega), if_pos (by omega), wrap64_id (by omega) (by omega), show (i : Int) + 1 = ((i + 1 : Nat) : Int) by omega]
      obtain ⟨b, e, h⟩ := ih (i + 1) k (by omega) (by omega) (by omega)
      split
      · exact ⟨_, rfl, fun e => by cases e⟩
      · split
        · exact ⟨_, rfl, fun e => by cases e⟩
        · exact ⟨b, e, h⟩
    · exact hend k _ (by omega)
theorem val_t (s : ByteArray) (hs : s.size ≤ 1000) (k : Nat) (hk : 1002 ≤ k) : ∃ b, pairs_Value.f k s = some b ∧ (b = true → s.size ≤ 40) := val_loop s hs s.size 0 k (by omega) (by omega) (by omega)
theorem field_t (s : ByteArray) (hs : s.size ≤ 999) (k : Nat) (hk : 2010 ≤ k) : ∃ a b ok, head_field.f k s = some (a, b, ok) ∧ (ok = true → a.size ≤ 40 ∧ b.size ≤ 40) := by
  obtain ⟨a, b, c, e1, s1, s2⟩ := cut_c s 58 (by omega) k (by omega)
  obtain ⟨t, e2, h2⟩ := trim_t b (by omega)
  have z1 := size_os a
  have z2 := size_os b
  have z3 := size_os t
  unfold head_field.f
  rw [e1, Option.bind_some, e2, Option.bind_some]
  cases c with
  | false => rw [if_neg Bool.false_ne_true]; exact ⟨a, t, false, rfl, fun e => by cases e⟩
  | true =>
    rw [if_pos rfl, tok_p a (by omega) k (by omega), Option.bind_some]
    cases h : isTok (os a) with
    | false => rw [if_neg (by decide)]; exact ⟨_, _, _, rfl, fun e => by cases e⟩
    | true =>
      obtain ⟨v, e3, h3⟩ := val_t t (by omega) k (by omega)
      rw [if_pos rfl, e3, Option.bind_some]
      refine ⟨a, t, v, rfl, fun e => ⟨?_, h3 e⟩⟩
      unfold isTok at h
      simp only [Bool.and_eq_true, decide_eq_true_eq] at h
      omega
theorem all_loop2 (n : ByteArray) (hn : (os n).length ≤ 100) (l : List PT) (hl : Small 1000 l) : ∀ (c i k : Nat) (acc : List ByteArray), l.length - i ≤ c → i ≤ l.length → acc.length ≤ 1000 + i → c + 1 ≤ k → pairs_All.l0 k n acc l (l.length : Int) (i : Int) = some (acc ++ allL n (l.drop i)) := by
  have hl1 := hl.1
  intro c
  induction c with
  | zero =>
    intro i k acc h1 h2 h3 h4
    obtain ⟨k, rfl⟩ : ∃ m, k = m + 1 := ⟨k - 1, by omega⟩
    rw [pairs_All.l0, if_neg (by omega), List.drop_eq_nil_of_le (by omega)]; simp [allL]
  | succ c ih =>
    intro i k acc h1 h2 h3 h4
    obtain ⟨k, rfl⟩ : ∃ m, k = m + 1 := ⟨k - 1, by omega⟩
    rw [pairs_All.l0]
    by_cases hi : i < l.length
    · have hx := (hl.2 _ (List.getElem_mem hi))
      rw [if_pos (by omega), if_pos (by omega), if_pos (by omega), rd_at l i hi, same_p _ _ (by omega) (by omega), Option.bind_some, List.drop_eq_getElem_cons hi, allL, List.filter_cons, wrapS (by omega)]
      cases hq : eqN (l[i]'hi).f0 n with
      | true =>
        rw [if_pos rfl, if_pos (by omega), ih (i + 1) k _ (by omega) (by omega) (by rw [List.length_append, List.length_singleton]; omega) (by omega), List.append_assoc]; rfl
      | false =>
        rw [if_neg (by decide), ih (i + 1) k acc (by omega) (by omega) (by omega) (by omega)]; rfl
    · rw [if_neg (by omega), List.drop_eq_nil_of_le (by omega)]; simp [allL]
theorem asked_t (l : List PT) (hl : Small 1000 l) (k : Nat) (hk : 1100 ≤ k) : ∃ h ok, head_asked.f k l = some (h, ok) := by
  have ha := all_loop2 ⟨#[104, 111, 115, 116]⟩ (by decide) l hl l.length 0 k [] (by omega) (by omega) (by simp) (by have := hl.1; omega)
  unfold head_asked.f pairs_All.f
  rw [show (0 : Int) = ((0 : Nat) : Int) from rfl, ha, Option.bind_some, List.nil_append, List.drop_zero]
  by_cases h : ((allL ⟨#[104, 111, 115, 116]⟩ l).length : Int) = 1
  · rw [if_pos h, if_pos (by omega)]
    obtain ⟨x, hx⟩ : ∃ x, allL ⟨#[104, 111, 115, 116]⟩ l = [x] := List.length_eq_one_iff.1 (by omega)
    have hm : x ∈ allL ⟨#[104, 111, 115, 116]⟩ l := by rw [hx]; exact List.mem_singleton.2 rfl
    obtain ⟨y, hy, rfl⟩ := List.mem_map.1 hm
    obtain ⟨t, e, _⟩ := of_h y.f1 (hl.2 y (List.mem_filter.1 hy).1).2 k (by omega)
    rw [hx, show rdOf ByteArray.empty [y.f1] ((0 : Nat) : Int) = y.f1 from rfl, e, Option.bind_some]
    exact ⟨_, _, rfl⟩
  · rw [if_neg h]; exact ⟨_, _, rfl⟩
theorem rgo_t (k : Nat) (hk : 2010 ≤ k) : ∀ (ps : List ByteArray) (st : Option (ByteArray × ByteArray × ByteArray × List PT × List PT)), (∀ p ∈ ps, p.size ≤ 999) → (∀ s, st = some s → s.2.2.2.1.length ≤ 1000 ∧ Small 1000 s.2.2.2.2 ∧ s.2.2.2.2.length + ps.length ≤ 1000) → (st = none → ps.length ≤ 1000) →
    ∃ o, head_read.go k ps st = some o ∧ (∀ s, o = some (some s) → s.2.2.2.1.length ≤ 1000 ∧ Small 1000 s.2.2.2.2) ∧ (o = some none → ps = [] ∧ st = none)
  | [], st, _, h, _ => ⟨some st, rfl, fun s e => by cases e; exact ⟨(h s rfl).1, (h s rfl).2.1⟩, fun e => ⟨rfl, by cases e; rfl⟩⟩
  | p :: ps, none, hp, _, hn => by
    obtain ⟨r1, r2, r3, r4, r6, e, hl⟩ := first_t p (hp p List.mem_cons_self) k hk
    have hn2 := hn rfl
    rw [List.length_cons] at hn2
    simp only [head_read.go, e, Option.bind_some]
    cases r6 with
    | false => exact ⟨none, by rw [if_neg (by decide)], (fun s e => by cases e), fun e => by cases e⟩
    | true =>
      rw [if_pos rfl]
      obtain ⟨o, h1, h2, h3⟩ := rgo_t k hk ps (some (r1, r2, r3, r4, [])) (fun q hq => hp q (List.mem_cons_of_mem _ hq)) (fun s e => by cases e; exact ⟨hl, ⟨Nat.zero_le _, fun x hx => by cases hx⟩, by show 0 + ps.length ≤ 1000; omega⟩) (fun e => by cases e)
      exact ⟨o, h1, h2, fun e => by cases (h3 e).2⟩
  | p :: ps, some s, hp, h, _ => by
    obtain ⟨a, b, ok, e, hb⟩ := field_t p (hp p List.mem_cons_self) k hk
    obtain ⟨q1, q2, q3⟩ := h s rfl
    rw [List.length_cons] at q3
    simp only [head_read.go, e, Option.bind_some]
    cases ok with
    | false => exact ⟨none, by rw [if_neg (by decide)], (fun s e => by cases e), fun e => by cases e⟩
    | true =>
      have hb2 := hb rfl
      rw [if_pos rfl, if_pos (by omega)]
      obtain ⟨o, h1, h2, h3⟩ := rgo_t k hk ps (some (s.1, s.2.1, s.2.2.1, s.2.2.2.1, s.2.2.2.2 ++ [⟨a, b⟩])) (fun q hq => hp q (List.mem_cons_of_mem _ hq)) (fun s2 e => by
        cases e
        refine ⟨q1, ⟨by show (s.2.2.2.2 ++ [_]).length ≤ 1000; rw [List.length_append, List.length_singleton]; omega, fun x hx => ?_⟩, by show (s.2.2.2.2 ++ [_]).length + ps.length ≤ 1000; rw [List.length_append, List.length_singleton]; omega⟩
        rcases List.mem_append.1 hx with hx | hx
        · exact q2.2 x hx
        · rw [List.mem_singleton.1 hx]
          have z1 := size_os a
          have z2 := size_os b
          exact ⟨by show (os a).length ≤ 100; omega, by show (os b).length ≤ 100; omega⟩) (fun e => by cases e)
      exact ⟨o, h1, h2, fun e => by cases (h3 e).2⟩
theorem cuts_ne (ix : ByteArray → Int) (m : Nat) : ∀ (k : Nat) (s : ByteArray), cuts ix m k s ≠ []
  | 0, s => by unfold cuts; simp
  | k + 1, s => by unfold cuts; split <;> simp
theorem read_h (s : ByteArray) (hs : s.size ≤ 998) (k : Nat) (hk : 2010 ≤ k) : ∃ r1 r2 r3 r4 r5 r6, head_read.f k s = some (r1, r2, r3, r4, r5, r6) ∧ r4.length ≤ 1000 ∧ r5.length ≤ 1000 := by
  have hl : (piecesM ⟨#[13, 10]⟩ s).length ≤ s.size + 1 := cuts_length _ _ _ _
  obtain ⟨o, e, h1, h2⟩ := rgo_t k hk (piecesM ⟨#[13, 10]⟩ s) none (fun p hp => by have := cuts_size _ _ _ _ p hp; omega) (fun s e => by cases e) (fun _ => by omega)
  unfold head_read.f
  rw [if_pos (by omega), e, Option.bind_some]
  rcases o with _ | _ | st
  · exact ⟨_, _, _, _, _, _, rfl, Nat.zero_le _, Nat.zero_le _⟩
  · exact absurd (h2 rfl).1 (cuts_ne _ _ _ _)
  · obtain ⟨q1, q2⟩ := h1 st rfl
    obtain ⟨h, ok, ea⟩ := asked_t st.2.2.2.2 q2 k (by omega)
    simp only [head_read.end_, ea, Option.bind_some]
    cases ok with
    | false => rw [if_neg (by decide)]; exact ⟨_, _, _, _, _, _, rfl, Nat.zero_le _, Nat.zero_le _⟩
    | true =>
      rw [if_pos rfl]
      by_cases h30 : st.2.2.2.2.length ≤ 30
      · rw [if_pos h30]; exact ⟨_, _, _, _, _, _, rfl, q1, q2.1⟩
      · rw [if_neg h30]; exact ⟨_, _, _, _, _, _, rfl, Nat.zero_le _, Nat.zero_le _⟩
noncomputable def iE (s : ByteArray) : Int := Go.Lib.index ((os s).take 1000) [13, 10, 13, 10]
theorem parse_eq (s : ByteArray) (hs : s.size ≤ 100000) (k : Nat) : head_Parse.f (k + 1) s = if iE s < 0 then some (⟨#[]⟩, ⟨#[]⟩, ⟨#[]⟩, [], [], 0, if s.size ≥ 1000 then 5 else 8) else
    (head_read.f k (s.extract 0 (iE s).toNat)).bind fun r => if r.2.2.2.2.2 = true then some (r.1, r.2.1, r.2.2.1, r.2.2.2.1, r.2.2.2.2.1, iE s + 4, 0) else some (⟨#[]⟩, ⟨#[]⟩, ⟨#[]⟩, [], [], 0, 2) := by
  have hz := size_os s
  have hmn : 0 ≤ mn (s.size : Int) 1000 ∧ mn (s.size : Int) 1000 ≤ (s.size : Int) := by unfold mn; constructor <;> split <;> omega
  have hz2 : (s.extract 0 (mn (s.size : Int) 1000 : Int).toNat).size < 4294967281 := by rw [ByteArray.size_extract]; omega
  have hi : Go.Lib.index (s.extract 0 (mn (s.size : Int) 1000 : Int).toNat).data.toList (⟨#[13, 10, 13, 10]⟩ : ByteArray).data.toList = iE s := by
    unfold iE
    have e : (s.extract 0 (mn (s.size : Int) 1000 : Int).toNat).data.toList = (os s).take 1000 := by
      refine (os_extract s 0 _).trans ?_
      rw [List.drop_zero, Nat.sub_zero]
      unfold mn
      split
      · rfl
      · rw [Int.toNat_natCast, List.take_of_length_le (by omega), List.take_of_length_le (by omega)]
    rw [e]
  have hge := Go.Lib.index_ge ((os s).take 1000) [13, 10, 13, 10]
  unfold head_Parse.f strings_IndexM.f
  rw [if_pos hmn.1, if_pos hmn.2, if_pos hz2, Option.bind_some, hi]
  by_cases c : iE s < 0
  · rw [if_pos c, if_pos c, head_Parse.j0]
    by_cases d : (s.size : Int) ≥ 1000
    · rw [decide_eq_true d, if_pos rfl, if_pos (show s.size ≥ 1000 by omega)]
    · rw [decide_eq_false d, if_neg (by decide), if_pos c, if_neg (show ¬ s.size ≥ 1000 by omega)]
  · have hr : (iE s).toNat ≤ (os s).length := by
      rcases Go.Lib.indexB_cases ⟨((os s).take 1000).toArray⟩ ⟨#[13, 10, 13, 10]⟩ with q | ⟨i, q, hq⟩
      · exact absurd (show iE s = -1 from q) (by omega)
      · have : iE s = (i : Int) := q
        have z : (⟨((os s).take 1000).toArray⟩ : ByteArray).size ≤ (os s).length := by rw [size_os, os_mk, List.length_take]; omega
        omega
    rw [if_neg c, if_neg c, head_Parse.j0, if_neg (by decide), if_neg c, if_pos (by omega), if_pos (by omega), wrap64_id (by omega) (by omega)]
theorem iE_at {s : ByteArray} {i : Nat} (h : iE s = (i : Int)) : i + 4 ≤ (os s).length ∧ i + 4 ≤ 1000 ∧ Go.Lib.occAt ((os s).take 1000) [13, 10, 13, 10] i = true ∧ ∀ j, j < i → Go.Lib.occAt ((os s).take 1000) [13, 10, 13, 10] j = false := by
  have hno : ∀ n, n ≤ i → Go.Lib.NoOcc ((os s).take 1000) [13, 10, 13, 10] n := by
    intro n
    induction n with
    | zero => exact fun _ => Go.Lib.NoOcc.zero _ _
    | succ n ih =>
      intro hn
      refine (ih (by omega)).succ ?_
      cases hc : Go.Lib.occAt ((os s).take 1000) [13, 10, 13, 10] n with
      | false => rfl
      | true =>
        exfalso
        have hroom := (Go.Lib.occAt_room hc).resolve_right (by simp)
        have := Go.Lib.index_hit (ih (by omega)) (by omega) hc
        have e : iE s = (n : Int) := this
        omega
  rcases Go.Lib.indexB_cases ⟨((os s).take 1000).toArray⟩ ⟨#[13, 10, 13, 10]⟩ with q | ⟨j, q, hq⟩
  · exact absurd (show iE s = -1 from q) (by omega)
  · have e : iE s = (j : Int) := q
    obtain rfl : j = i := by omega
    have z : (⟨((os s).take 1000).toArray⟩ : ByteArray).size = min 1000 (os s).length := by rw [size_os, os_mk, List.length_take]
    have z4 : (⟨#[13, 10, 13, 10]⟩ : ByteArray).size = 4 := rfl
    rw [z, z4] at hq
    refine ⟨by omega, by omega, ?_, fun m hm => hno j (Nat.le_refl _) m hm⟩
    cases hc : Go.Lib.occAt ((os s).take 1000) [13, 10, 13, 10] j with
    | true => rfl
    | false =>
      exfalso
      have hno2 := (hno j (Nat.le_refl _)).succ hc
      have := Go.Lib.index_drop hno2 (by rw [List.length_take]; omega)
      have e2 : iE s = _ := this
      rw [e] at e2
      have hge := Go.Lib.index_ge (((os s).take 1000).drop (j + 1)) [13, 10, 13, 10]
      split at e2
      · omega
      · next hne =>
        have : ¬ Go.Lib.index (((os s).take 1000).drop (j + 1)) [13, 10, 13, 10] = -1 := fun h => hne (beq_iff_eq.2 h)
        omega
theorem iE_of {s : ByteArray} {i : Nat} (h0 : i + 4 ≤ (os s).length) (h1 : i + 4 ≤ 1000) (h2 : Go.Lib.occAt ((os s).take 1000) [13, 10, 13, 10] i = true) (h3 : ∀ j, j < i → Go.Lib.occAt ((os s).take 1000) [13, 10, 13, 10] j = false) : iE s = (i : Int) :=
  Go.Lib.index_hit h3 (by rw [List.length_take]; omega) h2
theorem occ_take {l m : List UInt8} {n j : Nat} (h : l.take n = m.take n) (hj : j + 4 ≤ n) (hl : j + 4 ≤ l.length) (hm : j + 4 ≤ m.length) : Go.Lib.occAt l [13, 10, 13, 10] j = Go.Lib.occAt m [13, 10, 13, 10] j := by
  rw [Go.Lib.occAt_iff_take _ _ _ (by simpa using hl), Go.Lib.occAt_iff_take _ _ _ (by simpa using hm)]
  have e : ∀ x : List UInt8, (x.drop j).take 4 = ((x.take n).drop j).take 4 := fun x => by rw [List.drop_take, List.take_take, Nat.min_eq_left (by omega)]
  show ((l.drop j).take 4 == _) = ((m.drop j).take 4 == _)
  rw [e l, e m, h]
theorem same_loop1 (m h p : ByteArray) (q l : List PT) (hl : l.length ≤ 1000) : ∀ (n i k : Nat), l.length - i ≤ n → i ≤ l.length → n + 1 ≤ k → tollref07_SameAsk.l1 k (i : Int) m h p q l m h p q l = some true := by
  intro n
  induction n with
  | zero =>
    intro i k h1 h2 h3
    obtain ⟨k, rfl⟩ : ∃ m, k = m + 1 := ⟨k - 1, by omega⟩
    rw [tollref07_SameAsk.l1, if_neg (by omega)]
  | succ n ih =>
    intro i k h1 h2 h3
    obtain ⟨k, rfl⟩ : ∃ m, k = m + 1 := ⟨k - 1, by omega⟩
    rw [tollref07_SameAsk.l1]
    by_cases hi : i < l.length
    · rw [if_pos (by omega), if_pos (by omega), if_pos (by omega), if_neg (by simp), wrapS (by omega)]
      exact ih (i + 1) k (by omega) (by omega) (by omega)
    · rw [if_neg (by omega)]
theorem same_loop0 (m h p : ByteArray) (q l : List PT) (hq : q.length ≤ 1000) (hl : l.length ≤ 1000) : ∀ (n i k : Nat), q.length - i ≤ n → i ≤ q.length → n + 1003 ≤ k → tollref07_SameAsk.l0 k (i : Int) m h p q l m h p q l = some true := by
  intro n
  induction n with
  | zero =>
    intro i k h1 h2 h3
    obtain ⟨k, rfl⟩ : ∃ m, k = m + 1 := ⟨k - 1, by omega⟩
    rw [tollref07_SameAsk.l0, if_neg (by omega)]
    exact same_loop1 m h p q l hl l.length 0 k (by omega) (by omega) (by omega)
  | succ n ih =>
    intro i k h1 h2 h3
    obtain ⟨k, rfl⟩ : ∃ m, k = m + 1 := ⟨k - 1, by omega⟩
    rw [tollref07_SameAsk.l0]
    by_cases hi : i < q.length
    · rw [if_pos (by omega), if_pos (by omega), if_pos (by omega), if_neg (by simp), wrapS (by omega)]
      exact ih (i + 1) k (by omega) (by omega) (by omega)
    · rw [if_neg (by omega)]
      exact same_loop1 m h p q l hl l.length 0 k (by omega) (by omega) (by omega)
theorem same_ask (m h p : ByteArray) (q l : List PT) (hq : q.length ≤ 1000) (hl : l.length ≤ 1000) (k : Nat) (hk : 2010 ≤ k) : tollref07_SameAsk.f k m h p q l m h p q l = some true := by
  obtain ⟨k, rfl⟩ : ∃ m, k = m + 1 := ⟨k - 1, by omega⟩
  unfold tollref07_SameAsk.f
  rw [if_pos rfl, if_pos rfl, if_pos rfl, if_pos rfl, tollref07_SameAsk.j0, if_neg (by simp)]
  exact same_loop0 m h p q l hq hl q.length 0 k (by omega) (by omega) (by omega)
set_option maxRecDepth 100000 in
theorem head_awake0 : tolllaw18_awake.f 300 = some true := by decide +kernel
theorem head_awake (k : Nat) (hk : 300 ≤ k) : tolllaw18_awake.f k = some true := upTo (F := fun k => tolllaw18_awake.f k) (fun k => tolllaw18_awake.mono k) head_awake0 hk
end Go.Proofs.YtpmllmfamjpinaaDoor.L
