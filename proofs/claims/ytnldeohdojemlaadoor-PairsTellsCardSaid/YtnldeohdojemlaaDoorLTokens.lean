/- What pairs.Token and Value, and the reference's, answer, as plain functions on lists of octets; for texts of at most 1000 octets. -/
import Derived.Test.YtnldeohdojemlaaDoorPx0
import Derived.Test.YtnldeohdojemlaaDoorPx3
import Derived.Test.YtnldeohdojemlaaDoorPx4
import Derived.Test.YtnldeohdojemlaaDoorPx5
import Derived.Test.YtnldeohdojemlaaDoorLHolds
import Derived.Laws.Runes
namespace Go.Proofs.YtnldeohdojemlaaDoor.L
open Go Go.RowKit Go.Proofs.YtnldeohdojemlaaDoor.P Go.Proofs.YtnldeohdojemlaaDoorW.PrintWords Go.Proofs.YtnldeohdojemlaaDoorW.PrintLast

def marks : List UInt8 := [33, 35, 36, 37, 38, 39, 42, 43, 45, 46, 94, 95, 96, 124, 126]
/-- May an octet stand in a token? -/
def tok (c : UInt8) : Bool := (decide (97 ≤ c.toNat ||| 32) && decide (c.toNat ||| 32 ≤ 122)) || ((decide (48 ≤ c.toNat) && decide (c.toNat ≤ 57)) || marks.any (· == c))
def tokR (c : UInt8) : Bool := (decide (48 ≤ c.toNat) && decide (c.toNat ≤ 57)) || ((decide (65 ≤ c.toNat) && decide (c.toNat ≤ 90)) || ((decide (97 ≤ c.toNat) && decide (c.toNat ≤ 122)) || marks.any (· == c)))
theorem bits_or : ∀ n : Fin 256, Go.bits .or .u8 ((n : Nat) : Int) 32 = (((n : Nat) ||| 32 : Nat) : Int) := by decide +kernel
theorem bits_or' (c : UInt8) : Go.bits .or .u8 ((c.toNat : Nat) : Int) 32 = ((c.toNat ||| 32 : Nat) : Int) := bits_or ⟨c.toNat, c.toNat_lt⟩
theorem tok_all : ∀ n : Fin 256, tok (UInt8.ofNat n) = tokR (UInt8.ofNat n) := by decide +kernel
theorem tok_eq (c : UInt8) : tok c = tokR c := by
  have := tok_all ⟨c.toNat, c.toNat_lt⟩
  rwa [show UInt8.ofNat ((⟨c.toNat, c.toNat_lt⟩ : Fin 256) : Nat) = c from UInt8.ofNat_toNat] at this
/-- Is a text a token? -/
def isTok (l : List UInt8) : Bool := l.all tok && (decide (l ≠ []) && decide (l.length ≤ 40))
theorem bt_c {s : ByteArray} {i : Nat} (h : i < (os s).length) : bt s (i : Int) = (((os s)[i]'h).toNat : Int) := by
  rw [bt_os, List.getElem?_eq_getElem h]; rfl
theorem fin_tok (s : ByteArray) : (if os s = ([] : List UInt8) then (some false : Option Bool) else some (decide ((s.size : Int) ≤ 40))) = some (decide (os s ≠ []) && decide ((os s).length ≤ 40)) := by
  have hsz := size_os s
  by_cases h : os s = []
  · rw [if_pos h, h]; rfl
  · rw [if_neg h, show decide (os s ≠ []) = true from decide_eq_true h, Bool.true_and]
    congr 1
    rw [decide_eq_decide]; omega
theorem tok_p_loop (s : ByteArray) (hs : (os s).length ≤ 1000) : ∀ (n i k : Nat), (os s).length - i ≤ n → i ≤ (os s).length → n + 1 ≤ k → pairs_Token.l0 k s (s.size : Int) (i : Int) = some (((os s).drop i).all tok && (decide (os s ≠ []) && decide ((os s).length ≤ 40))) := by
  have hsz := size_os s
  intro n
  induction n with
  | zero =>
    intro i k h1 h2 h3
    obtain ⟨k, rfl⟩ : ∃ m, k = m + 1 := ⟨k - 1, by omega⟩
    rw [pairs_Token.l0, if_neg (by omega), List.drop_eq_nil_of_le (by omega), toList_os, fin_tok]; rfl
  | succ n ih =>
    intro i k h1 h2 h3
    obtain ⟨k, rfl⟩ : ∃ m, k = m + 1 := ⟨k - 1, by omega⟩
    by_cases hi : i < (os s).length
    · rw [pairs_Token.l0, if_pos (by omega), if_pos (by omega), if_pos (by omega), bt_c hi, bits_or', wrapS (by omega), ih (i + 1) k (by omega) (by omega) (by omega), List.drop_eq_getElem_cons hi, List.all_cons]
      generalize (os s)[i]'hi = c
      rw [Bool.and_assoc]
      generalize (((os s).drop (i + 1)).all tok && (decide (os s ≠ []) && decide ((os s).length ≤ 40))) = rest
      have hf : ∀ c : UInt8, strings_IndexByte.f ⟨#[33, 35, 36, 37, 38, 39, 42, 43, 45, 46, 94, 95, 96, 124, 126]⟩ ((c.toNat : Nat) : Int) = some (firstIdx ⟨#[33, 35, 36, 37, 38, 39, 42, 43, 45, 46, 94, 95, 96, 124, 126]⟩ c) := fun c => by
        unfold strings_IndexByte.f stringslite_IndexByte.f
        rw [Option.bind_some, Int.toNat_natCast, show c.toNat.toUInt8 = c from UInt8.ofNat_toNat]
      have hm := firstIdx_nonneg ⟨#[33, 35, 36, 37, 38, 39, 42, 43, 45, 46, 94, 95, 96, 124, 126]⟩ c
      have hmm : (⟨#[33, 35, 36, 37, 38, 39, 42, 43, 45, 46, 94, 95, 96, 124, 126]⟩ : ByteArray).data.toList = marks := rfl
      rw [hmm] at hm
      have ht : tok c = ((decide (97 ≤ c.toNat ||| 32) && decide (c.toNat ||| 32 ≤ 122)) || ((decide (48 ≤ c.toNat) && decide (c.toNat ≤ 57)) || marks.any (· == c))) := rfl
      rw [ht, ← hm, hf]
      simp only [Option.bind_some]
      generalize firstIdx ⟨#[33, 35, 36, 37, 38, 39, 42, 43, 45, 46, 94, 95, 96, 124, 126]⟩ c = x
      generalize c.toNat ||| 32 = y
      generalize c.toNat = z
      by_cases a1 : (97 : Int) ≤ (y : Int) <;> by_cases a2 : (y : Int) ≤ 122 <;> by_cases a3 : (48 : Int) ≤ (z : Int) <;> by_cases a4 : (z : Int) ≤ 57 <;> by_cases a5 : 0 ≤ x <;> simp [a1, a2, a3, a4, a5, ge_iff_le] <;> omega
    · rw [pairs_Token.l0, if_neg (by omega), List.drop_eq_nil_of_le (by omega), toList_os, fin_tok]; rfl
theorem tok_p (s : ByteArray) (hs : (os s).length ≤ 1000) (k : Nat) (hk : 1100 ≤ k) : pairs_Token.f k s = some (isTok (os s)) := by
  have := tok_p_loop s hs (os s).length 0 k (by omega) (by omega) (by omega)
  rw [List.drop_zero] at this
  exact this
theorem tokR_j2 (k : Nat) (s : ByteArray) (i : Int) (a b : Bool) : tollref05_Token.j2 (k + 1) s i a b = if (b || a) = true then tollref05_Token.l0 k s (wrap64 (i + 1)) else some false := by
  rw [tollref05_Token.j2]; cases a <;> cases b <;> rfl
def marksI (n : Int) : Bool := decide (n = 33) || (decide (n = 35) || (decide (n = 36) || (decide (n = 37) || (decide (n = 38) || (decide (n = 39) || (decide (n = 42) || (decide (n = 43) || (decide (n = 45) || (decide (n = 46) || (decide (n = 94) || (decide (n = 95) || (decide (n = 96) || (decide (n = 124) || decide (n = 126))))))))))))))
theorem marks_all : ∀ n : Fin 256, marks.any (· == UInt8.ofNat n) = marksI ((n : Nat) : Int) := by decide +kernel
theorem marks_eq (c : UInt8) : marks.any (· == c) = marksI (c.toNat : Int) := by
  have := marks_all ⟨c.toNat, c.toNat_lt⟩
  rwa [show UInt8.ofNat ((⟨c.toNat, c.toNat_lt⟩ : Fin 256) : Nat) = c from UInt8.ofNat_toNat] at this
theorem tokR_j1 (k : Nat) (s : ByteArray) (i n : Int) (a : Bool) : tollref05_Token.j1 (k + 2) s i n a = if (marksI n || a) = true then tollref05_Token.l0 k s (wrap64 (i + 1)) else some false := by
  have hj : ∀ b : Bool, tollref05_Token.j2 (k + 1) s i a b = if (b || a) = true then tollref05_Token.l0 k s (wrap64 (i + 1)) else some false := tokR_j2 k s i a
  rw [tollref05_Token.j1]
  simp only [hj]
  by_cases h33 : n = 33
  · subst h33; rfl
  by_cases h35 : n = 35
  · subst h35; rfl
  by_cases h36 : n = 36
  · subst h36; rfl
  by_cases h37 : n = 37
  · subst h37; rfl
  by_cases h38 : n = 38
  · subst h38; rfl
  by_cases h39 : n = 39
  · subst h39; rfl
  by_cases h42 : n = 42
  · subst h42; rfl
  by_cases h43 : n = 43
  · subst h43; rfl
  by_cases h45 : n = 45
  · subst h45; rfl
  by_cases h46 : n = 46
  · subst h46; rfl
  by_cases h94 : n = 94
  · subst h94; rfl
  by_cases h95 : n = 95
  · subst h95; rfl
  by_cases h96 : n = 96
  · subst h96; rfl
  by_cases h124 : n = 124
  · subst h124; rfl
  rw [if_neg h33, if_neg h35, if_neg h36, if_neg h37, if_neg h38, if_neg h39, if_neg h42, if_neg h43, if_neg h45, if_neg h46, if_neg h94, if_neg h95, if_neg h96, if_neg h124]
  unfold marksI
  simp only [h33, h35, h36, h37, h38, h39, h42, h43, h45, h46, h94, h95, h96, h124, decide_false, Bool.false_or]
  by_cases h126 : n = 126
  · subst h126; rfl
  · rw [show (n == 126) = false from beq_eq_false_iff_ne.2 h126, show decide (n = 126) = false from decide_eq_false h126]
theorem tok_r_loop (s : ByteArray) (hs : (os s).length ≤ 1000) : ∀ (n i k : Nat), (os s).length - i ≤ n → i ≤ (os s).length → 3 * n + 3 ≤ k → tollref05_Token.l0 k s (i : Int) = some (((os s).drop i).all tok && (decide (os s ≠ []) && decide ((os s).length ≤ 40))) := by
  have hsz := size_os s
  have hend : ∀ k, tollref05_Token.l0 (k + 1) s ((os s).length : Int) = some (decide (os s ≠ []) && decide ((os s).length ≤ 40)) := fun k => by
    rw [tollref05_Token.l0, if_neg (by omega)]
    by_cases h : os s = []
    · rw [if_neg (by rw [hsz, h]; decide), h]; rfl
    · have : 1 ≤ (os s).length := by cases hh : os s with | nil => exact absurd hh h | cons => simp
      rw [if_pos (by omega), show decide (os s ≠ []) = true from decide_eq_true h, Bool.true_and]
      congr 1
      rw [decide_eq_decide]; omega
  intro n
  induction n with
  | zero =>
    intro i k h1 h2 h3
    obtain ⟨k, rfl⟩ : ∃ m, k = m + 1 := ⟨k - 1, by omega⟩
    obtain rfl : i = (os s).length := by omega
    rw [hend, List.drop_length]; rfl
  | succ n ih =>
    intro i k h1 h2 h3
    obtain ⟨k, rfl⟩ : ∃ m, k = m + 3 := ⟨k - 3, by omega⟩
    by_cases hi : i < (os s).length
    · rw [tollref05_Token.l0, if_pos (by omega), if_pos (by omega), bt_c hi]
      simp only [tokR_j1]
      rw [wrapS (by omega), ih (i + 1) k (by omega) (by omega) (by omega), List.drop_eq_getElem_cons hi, List.all_cons, tok_eq]
      generalize (os s)[i]'hi = c
      rw [Bool.and_assoc]
      generalize (((os s).drop (i + 1)).all tok && (decide (os s ≠ []) && decide ((os s).length ≤ 40))) = rest
      rw [tokR, marks_eq]
      generalize marksI (c.toNat : Int) = m
      generalize c.toNat = z
      simp only [show ((48 : Int) ≤ (z : Int)) = (48 ≤ z) from propext (by omega), show ((z : Int) ≤ 57) = (z ≤ 57) from propext (by omega), show ((65 : Int) ≤ (z : Int)) = (65 ≤ z) from propext (by omega), show ((z : Int) ≤ 90) = (z ≤ 90) from propext (by omega), show ((97 : Int) ≤ (z : Int)) = (97 ≤ z) from propext (by omega), show ((z : Int) ≤ 122) = (z ≤ 122) from propext (by omega)]
      by_cases a1 : 48 ≤ z <;> by_cases a2 : z ≤ 57 <;> by_cases a3 : 65 ≤ z <;> by_cases a4 : z ≤ 90 <;> by_cases a5 : 97 ≤ z <;> by_cases a6 : z ≤ 122 <;> cases m <;> simp [a1, a2, a3, a4, a5, a6]
    · obtain rfl : i = (os s).length := by omega
      rw [show k + 3 = (k + 2) + 1 from rfl, hend, List.drop_length]; rfl
theorem tok_r (s : ByteArray) (hs : (os s).length ≤ 1000) (k : Nat) (hk : 3100 ≤ k) : tollref05_Token.f k s = some (isTok (os s)) := by
  have := tok_r_loop s hs (os s).length 0 k (by omega) (by omega) (by omega)
  rw [List.drop_zero] at this
  exact this
/-! #### values -/
/-- Is a text a field's value? -/
def isVal (l : List UInt8) : Bool := l.all (fun c => decide (32 ≤ c.toNat) && decide (c.toNat ≤ 126)) && (decide (l.length ≤ 40) && (decide (l.head? ≠ some 32) && decide (l.getLast? ≠ some 32)))
theorem trimL (c : UInt8) : ∀ (n k : Nat) (s : ByteArray), (os s).length ≤ n → n + 1 ≤ k → ∃ t, strings_trimLeftByte.l0 k s (c.toNat : Int) = some t ∧ os t = (os s).dropWhile (· == c) := by
  intro n
  induction n with
  | zero =>
    intro k s h1 h2
    have hs := size_os s
    obtain ⟨k, rfl⟩ : ∃ m, k = m + 1 := ⟨k - 1, by omega⟩
    have h0 : os s = [] := List.eq_nil_of_length_eq_zero (by omega)
    rw [strings_trimLeftByte.l0, if_neg (by omega)]
    exact ⟨s, rfl, by rw [h0]; rfl⟩
  | succ n ih =>
    intro k s h1 h2
    have hs := size_os s
    obtain ⟨k, rfl⟩ : ∃ m, k = m + 1 := ⟨k - 1, by omega⟩
    by_cases hp : 0 < (os s).length
    · have hb : bt s 0 = (((os s)[0]'hp).toNat : Int) := bt_c hp
      rw [strings_trimLeftByte.l0, if_pos (by omega), if_pos (by omega), hb]
      obtain ⟨a, r, e⟩ : ∃ a r, os s = a :: r := by
        cases h : os s with
        | nil => rw [h] at hp; simp at hp
        | cons a r => exact ⟨a, r, rfl⟩
      have ha : (os s)[0]'hp = a := by simp [e]
      rw [ha]
      by_cases hc : a = c
      · subst hc
        rw [if_pos rfl, if_pos (by omega)]
        have ht : os (s.extract 1 s.size) = r := by rw [os_extract, e, List.drop_one, List.tail_cons, List.take_of_length_le (by rw [hs, e, List.length_cons]; omega)]
        obtain ⟨t, h3, h4⟩ := ih k (s.extract 1 s.size) (by rw [ht]; rw [e, List.length_cons] at h1; omega) (by omega)
        exact ⟨t, h3, by rw [h4, ht, e, List.dropWhile_cons]; simp⟩
      · rw [if_neg (fun h => hc (UInt8.toNat_inj.1 (by omega)))]
        exact ⟨s, rfl, by rw [e, List.dropWhile_cons]; simp [hc]⟩
    · have h0 : os s = [] := List.eq_nil_of_length_eq_zero (by omega)
      rw [strings_trimLeftByte.l0, if_neg (by omega)]
      exact ⟨s, rfl, by rw [h0]; rfl⟩
theorem trimR (c : UInt8) : ∀ (n k : Nat) (s : ByteArray), (os s).length ≤ n → n ≤ 1000 → n + 1 ≤ k → ∃ t, strings_trimRightByte.l0 k s (c.toNat : Int) = some t ∧ os t = ((os s).reverse.dropWhile (· == c)).reverse := by
  intro n
  induction n with
  | zero =>
    intro k s h1 h2 h3
    have hs := size_os s
    obtain ⟨k, rfl⟩ : ∃ m, k = m + 1 := ⟨k - 1, by omega⟩
    have h0 : os s = [] := List.eq_nil_of_length_eq_zero (by omega)
    rw [strings_trimRightByte.l0, if_neg (by omega)]
    exact ⟨s, rfl, by rw [h0]; rfl⟩
  | succ n ih =>
    intro k s h1 h2 h3
    have hs := size_os s
    obtain ⟨k, rfl⟩ : ∃ m, k = m + 1 := ⟨k - 1, by omega⟩
    by_cases hp : 0 < (os s).length
    · obtain ⟨r, a, e⟩ : ∃ r a, os s = r ++ [a] := ⟨_, _, (List.dropLast_concat_getLast (List.ne_nil_of_length_pos hp)).symm⟩
      have hl : (os s).length = r.length + 1 := by rw [e]; simp
      have hw : wrap64 ((s.size : Int) - 1) = ((r.length : Nat) : Int) := by rw [wrap64_id (by omega) (by omega)]; omega
      have hb : bt s ((r.length : Nat) : Int) = (a.toNat : Int) := by rw [bt_c (by omega)]; simp [e]
      rw [strings_trimRightByte.l0, if_pos (by omega), hw, if_pos (by omega), if_pos (by omega), hb]
      by_cases hc : a = c
      · subst hc
        rw [if_pos rfl, if_pos (by omega)]
        have ht : os (s.extract 0 ((r.length : Nat) : Int).toNat) = r := by rw [os_extract, e, List.drop_zero, Int.toNat_natCast, Nat.sub_zero, List.take_left]
        obtain ⟨t, h4, h5⟩ := ih k (s.extract 0 ((r.length : Nat) : Int).toNat) (by rw [ht]; omega) (by omega) (by omega)
        exact ⟨t, h4, by rw [h5, ht, e]; simp⟩
      · rw [if_neg (fun h => hc (UInt8.toNat_inj.1 (by omega)))]
        exact ⟨s, rfl, by rw [e]; simp [hc]⟩
    · have h0 : os s = [] := List.eq_nil_of_length_eq_zero (by omega)
      rw [strings_trimRightByte.l0, if_neg (by omega)]
      exact ⟨s, rfl, by rw [h0]; rfl⟩
theorem dropWhile_len {α : Type} (p : α → Bool) : ∀ l : List α, (l.dropWhile p).length ≤ l.length ∧ ((l.dropWhile p).length = l.length → l.dropWhile p = l ∧ ∀ a, l.head? = some a → p a = false)
  | [] => ⟨Nat.le_refl _, fun _ => ⟨rfl, fun a h => by cases h⟩⟩
  | a :: r => by
    have ih := dropWhile_len p r
    rw [List.dropWhile_cons]
    cases h : p a with
    | true =>
      simp only [if_true, List.length_cons]
      exact ⟨by omega, fun h => by omega⟩
    | false => exact ⟨Nat.le_refl _, fun _ => ⟨rfl, fun b hb => by cases hb; exact h⟩⟩
theorem dropWhile_id {α : Type} (p : α → Bool) (l : List α) (h : ∀ a, l.head? = some a → p a = false) : l.dropWhile p = l := by
  cases l with
  | nil => rfl
  | cons a r => rw [List.dropWhile_cons, h a rfl]; rfl
theorem trim_p (s : ByteArray) (hs : (os s).length ≤ 1000) (k : Nat) (hk : 1100 ≤ k) : ∃ t, strings_Trim.f k s ⟨#[32]⟩ = some t ∧ (os t == os s) = (decide ((os s).head? ≠ some 32) && decide ((os s).getLast? ≠ some 32)) := by
  unfold strings_Trim.f
  rw [toList_os]
  obtain ⟨k, rfl⟩ : ∃ m, k = m + 2 := ⟨k - 2, by omega⟩
  by_cases h0 : os s = []
  · rw [if_pos h0, strings_Trim.j0, if_pos rfl]
    exact ⟨s, rfl, by rw [h0]; rfl⟩
  · rw [if_neg h0, show ((⟨#[32]⟩ : ByteArray).toList == ([] : List UInt8)) = false from by rw [toList_os]; rfl, strings_Trim.j0, if_neg (by decide), if_pos (by decide), if_pos (by decide), show decide ((bt ⟨#[32]⟩ 0) < 128) = true from by decide, strings_Trim.j1, if_pos rfl, if_pos (by decide)]
    have hb : bt ⟨#[32]⟩ 0 = ((32 : UInt8).toNat : Int) := by decide
    obtain ⟨t, h1, h2⟩ := trimR 32 (os s).length k s (Nat.le_refl _) hs (by omega)
    have hlt : (os t).length ≤ (os s).length := by rw [h2, List.length_reverse]; have := (dropWhile_len (· == (32 : UInt8)) (os s).reverse).1; rwa [List.length_reverse] at this
    obtain ⟨u, h3, h4⟩ := trimL 32 (os t).length k t (Nat.le_refl _) (by omega)
    unfold strings_trimRightByte.f strings_trimLeftByte.f
    rw [hb, h1, Option.bind_some, h3, Option.bind_some]
    refine ⟨u, rfl, ?_⟩
    rw [Bool.eq_iff_iff, beq_iff_eq, Bool.and_eq_true, decide_eq_true_eq, decide_eq_true_eq]
    constructor
    · intro he
      have e1 : (os u).length = (os s).length := by rw [he]
      have d1 := dropWhile_len (· == (32 : UInt8)) (os t)
      rw [← h4] at d1
      have e2 : (os u).length = (os t).length := by omega
      have d2 := dropWhile_len (· == (32 : UInt8)) (os s).reverse
      have e3 : ((os s).reverse.dropWhile (· == (32 : UInt8))).length = (os s).reverse.length := by
        rw [List.length_reverse]
        have := congrArg List.length h2
        rw [List.length_reverse] at this
        omega
      have f1 := (d1.2 e2).2
      have f2 := (d2.2 e3).2
      have e4 : os t = os s := by rw [h2, (d2.2 e3).1, List.reverse_reverse]
      rw [e4] at f1
      refine ⟨fun h => ?_, fun h => ?_⟩
      · have := f1 32 h; simp at this
      · rw [List.head?_reverse] at f2
        have := f2 32 h; simp at this
    · rintro ⟨f1, f2⟩
      have e1 : os t = os s := by
        rw [h2, dropWhile_id, List.reverse_reverse]
        intro a ha
        rw [List.head?_reverse] at ha
        refine beq_eq_false_iff_ne.2 fun e => f2 ?_
        rw [ha, e]
      rw [h4, e1, dropWhile_id]
      intro a ha
      refine beq_eq_false_iff_ne.2 fun e => f1 ?_
      rw [ha, e]
theorem val_p_loop (s : ByteArray) (hs : (os s).length ≤ 1000) : ∀ (n i k : Nat), (os s).length - i ≤ n → i ≤ (os s).length → n + 1101 ≤ k → pairs_Value.l0 k s (s.size : Int) (i : Int) = some (((os s).drop i).all (fun c => decide (32 ≤ c.toNat) && decide (c.toNat ≤ 126)) && (decide ((os s).length ≤ 40) && (decide ((os s).head? ≠ some 32) && decide ((os s).getLast? ≠ some 32)))) := by
  have hsz := size_os s
  have hend : ∀ k, 1100 ≤ k → pairs_Value.l0 (k + 1) s (s.size : Int) ((os s).length : Int) = some (decide ((os s).length ≤ 40) && (decide ((os s).head? ≠ some 32) && decide ((os s).getLast? ≠ some 32))) := fun k hk => by
    rw [pairs_Value.l0, if_neg (by omega)]
    obtain ⟨t, h1, h2⟩ := trim_p s hs k hk
    by_cases h : (os s).length ≤ 40
    · rw [if_pos (by omega), h1, Option.bind_some, toList_os, toList_os, h2, decide_eq_true h, Bool.true_and]
    · rw [if_neg (by omega), decide_eq_false h, Bool.false_and]
  intro n
  induction n with
  | zero =>
    intro i k h1 h2 h3
    obtain ⟨k, rfl⟩ : ∃ m, k = m + 1 := ⟨k - 1, by omega⟩
    obtain rfl : i = (os s).length := by omega
    rw [hend k (by omega), List.drop_length]; rfl
  | succ n ih =>
    intro i k h1 h2 h3
    obtain ⟨k, rfl⟩ : ∃ m, k = m + 1 := ⟨k - 1, by omega⟩
    by_cases hi : i < (os s).length
    · rw [pairs_Value.l0, if_pos (by omega), if_pos (by omega), if_pos (by omega), bt_c hi, wrapS (by omega), ih (i + 1) k (by omega) (by omega) (by omega), List.drop_eq_getElem_cons hi, List.all_cons]
      by_cases a1 : ((os s)[i]'hi).toNat < 32
      · rw [if_pos (by omega), show decide (32 ≤ ((os s)[i]'hi).toNat) = false from decide_eq_false (by omega)]; rfl
      · rw [if_neg (by omega), show decide (32 ≤ ((os s)[i]'hi).toNat) = true from decide_eq_true (by omega)]
        by_cases a2 : ((os s)[i]'hi).toNat > 126
        · rw [if_pos (by omega), show decide (((os s)[i]'hi).toNat ≤ 126) = false from decide_eq_false (by omega)]; rfl
        · rw [if_neg (by omega), show decide (((os s)[i]'hi).toNat ≤ 126) = true from decide_eq_true (by omega)]; rfl
    · obtain rfl : i = (os s).length := by omega
      rw [hend k (by omega), List.drop_length]; rfl
theorem val_p (s : ByteArray) (hs : (os s).length ≤ 1000) (k : Nat) (hk : 2200 ≤ k) : pairs_Value.f k s = some (isVal (os s)) := by
  have := val_p_loop s hs (os s).length 0 k (by omega) (by omega) (by omega)
  rw [List.drop_zero] at this
  exact this
/-- What the reference asks of the octet at place i. -/
def valAt (l : List UInt8) (i : Nat) (c : UInt8) : Bool := (decide (32 ≤ c.toNat) && decide (c.toNat ≤ 126)) && !(decide (c = 32) && (decide (i = 0) || decide (i + 1 = l.length)))
theorem val_r_loop (s : ByteArray) (hs : (os s).length ≤ 1000) : ∀ (n i k : Nat), (os s).length - i ≤ n → i ≤ (os s).length → n + 1 ≤ k → ∃ b, tollref05_Value.l0 k s (i : Int) = some b ∧ (b = true ↔ (os s).length ≤ 40 ∧ ∀ j (hj : j < (os s).length), i ≤ j → valAt (os s) j ((os s)[j]'hj) = true) := by
  have hsz := size_os s
  have hend : ∀ k, ∃ b, tollref05_Value.l0 (k + 1) s ((os s).length : Int) = some b ∧ (b = true ↔ (os s).length ≤ 40 ∧ ∀ j (hj : j < (os s).length), (os s).length ≤ j → valAt (os s) j ((os s)[j]'hj) = true) := fun k => by
    rw [tollref05_Value.l0, if_neg (by omega)]
    refine ⟨_, rfl, ?_⟩
    rw [decide_eq_true_eq]
    exact ⟨fun h => ⟨by omega, fun j hj hj' => by omega⟩, fun h => by have := h.1; omega⟩
  intro n
  induction n with
  | zero =>
    intro i k h1 h2 h3
    obtain ⟨k, rfl⟩ : ∃ m, k = m + 1 := ⟨k - 1, by omega⟩
    obtain rfl : i = (os s).length := by omega
    exact hend k
  | succ n ih =>
    intro i k h1 h2 h3
    obtain ⟨k, rfl⟩ : ∃ m, k = m + 1 := ⟨k - 1, by omega⟩
    by_cases hi : i < (os s).length
    · obtain ⟨b, e, hb⟩ := ih (i + 1) k (by omega) (by omega) (by omega)
      have hno : valAt (os s) i ((os s)[i]'hi) = false → ∃ b, some false = some b ∧ (b = true ↔ (os s).length ≤ 40 ∧ ∀ j (hj : j < (os s).length), i ≤ j → valAt (os s) j ((os s)[j]'hj) = true) := fun h => ⟨false, rfl, ⟨fun hf => Bool.noConfusion hf, fun h' => (by have := h'.2 i hi (Nat.le_refl _); rw [h] at this; cases this)⟩⟩
      have hyes : valAt (os s) i ((os s)[i]'hi) = true → ∃ b', some b = some b' ∧ (b' = true ↔ (os s).length ≤ 40 ∧ ∀ j (hj : j < (os s).length), i ≤ j → valAt (os s) j ((os s)[j]'hj) = true) := fun h => ⟨b, rfl, hb.trans ⟨fun h' => ⟨h'.1, fun j hj hij => by
        rcases Nat.lt_or_ge i j with h4 | h4
        · exact h'.2 j hj (by omega)
        · obtain rfl : i = j := by omega
          exact h⟩, fun h' => ⟨h'.1, fun j hj hij => h'.2 j hj (by omega)⟩⟩⟩
      rw [tollref05_Value.l0, if_pos (by omega), bt_c hi, wrapS (by omega), e]
      have hc : ∀ c : UInt8, ((c.toNat : Int) = 32) ↔ c = 32 := fun c => ⟨fun h => UInt8.toNat_inj.1 (by have : (32 : UInt8).toNat = 32 := rfl; omega), fun h => by rw [h]; rfl⟩
      simp only [hc, show ((i : Int) = 0) = (i = 0) from propext (by omega), show ((i : Int) = wrap64 ((s.size : Int) - 1)) = (i + 1 = (os s).length) from propext (by rw [wrap64_id (by omega) (by omega)]; omega)]
      generalize hcc : (os s)[i]'hi = c at *
      have n1 : ((c.toNat : Int) < 32) = ¬ (32 ≤ c.toNat) := propext (by omega)
      have n2 : ((c.toNat : Int) > 126) = ¬ (c.toNat ≤ 126) := propext (by omega)
      have n3 : ((0 : Int) ≤ (i : Int)) = True := eq_true (by omega)
      simp only [n1, n2, n3, if_true]
      by_cases a4 : i = 0
      · rw [if_pos a4]
        by_cases a1 : 32 ≤ c.toNat
        · rw [if_neg (not_not_intro a1)]
          by_cases a2 : c.toNat ≤ 126
          · rw [if_neg (not_not_intro a2)]
            by_cases a3 : c = 32
            · rw [if_pos a3]; exact hno (by unfold valAt; rw [decide_eq_true a3, decide_eq_true a4]; simp)
            · rw [if_neg a3]; exact hyes (by unfold valAt; rw [decide_eq_true a1, decide_eq_true a2, decide_eq_false a3]; rfl)
          · rw [if_pos a2]; exact hno (by unfold valAt; rw [decide_eq_false a2, Bool.and_false]; rfl)
        · rw [if_pos a1]; exact hno (by unfold valAt; rw [decide_eq_false a1]; rfl)
      · rw [if_neg a4]
        by_cases a1 : 32 ≤ c.toNat
        · rw [if_neg (not_not_intro a1)]
          by_cases a2 : c.toNat ≤ 126
          · rw [if_neg (not_not_intro a2)]
            by_cases a3 : c = 32
            · rw [if_pos a3]
              by_cases a5 : i + 1 = (os s).length
              · rw [if_pos a5]; exact hno (by unfold valAt; rw [decide_eq_true a3, decide_eq_true a5]; simp)
              · rw [if_neg a5]; exact hyes (by unfold valAt; rw [decide_eq_true a1, decide_eq_true a2, decide_eq_false a4, decide_eq_false a5]; simp)
            · rw [if_neg a3]; exact hyes (by unfold valAt; rw [decide_eq_true a1, decide_eq_true a2, decide_eq_false a3]; rfl)
          · rw [if_pos a2]; exact hno (by unfold valAt; rw [decide_eq_false a2, Bool.and_false]; rfl)
        · rw [if_pos a1]; exact hno (by unfold valAt; rw [decide_eq_false a1]; rfl)
    · obtain rfl : i = (os s).length := by omega
      exact hend k
theorem val_r (s : ByteArray) (hs : (os s).length ≤ 1000) (k : Nat) (hk : 1100 ≤ k) : tollref05_Value.f k s = some (isVal (os s)) := by
  obtain ⟨b, e, hb⟩ := val_r_loop s hs (os s).length 0 k (by omega) (by omega) (by omega)
  have e' : tollref05_Value.f k s = some b := e
  rw [e']
  congr 1
  rw [Bool.eq_iff_iff, hb]
  unfold isVal
  simp only [Bool.and_eq_true, decide_eq_true_eq, List.all_eq_true]
  constructor
  · rintro ⟨h1, h2⟩
    have h3 : ∀ j (hj : j < (os s).length), valAt (os s) j ((os s)[j]'hj) = true := fun j hj => h2 j hj (Nat.zero_le _)
    refine ⟨fun c hc => ?_, h1, fun h => ?_, fun h => ?_⟩
    · obtain ⟨j, hj, rfl⟩ := List.getElem_of_mem hc
      have := h3 j hj
      unfold valAt at this
      simp only [Bool.and_eq_true, decide_eq_true_eq] at this
      exact this.1
    · rw [List.head?_eq_getElem?] at h
      obtain ⟨hj, h4⟩ := List.getElem?_eq_some_iff.1 h
      have := h3 0 hj
      rw [h4] at this
      revert this; unfold valAt; simp
    · rw [List.getLast?_eq_getElem?] at h
      obtain ⟨hj, h4⟩ := List.getElem?_eq_some_iff.1 h
      have := h3 _ hj
      rw [h4] at this
      revert this; unfold valAt; simp; omega
  · rintro ⟨h1, h2, h3, h4⟩
    refine ⟨h2, fun j hj _ => ?_⟩
    have hc := h1 _ (List.getElem_mem hj)
    unfold valAt
    rw [decide_eq_true hc.1, decide_eq_true hc.2]
    by_cases a : (os s)[j]'hj = 32
    · have n0 : ¬ j = 0 := fun e => by
        subst e
        exact h3 (by rw [List.head?_eq_getElem?, List.getElem?_eq_getElem hj, a])
      have n1 : ¬ j + 1 = (os s).length := fun e => by
        refine h4 ?_
        rw [List.getLast?_eq_getElem?, show (os s).length - 1 = j by omega, List.getElem?_eq_getElem hj, a]
      rw [decide_eq_false n0, decide_eq_false n1, Bool.or_self, Bool.and_false]; rfl
    · rw [decide_eq_false a]; rfl
end Go.Proofs.YtnldeohdojemlaaDoor.L
