/- What the functions of package pairs, and the reference's, answer, as plain functions on lists of pairs; for few pairs of short texts. -/
import Derived.Test.YtnldeohdojemlaaDoorPx0
import Derived.Test.YtnldeohdojemlaaDoorPx2
import Derived.Test.YtnldeohdojemlaaDoorPx3
import Derived.Test.YtnldeohdojemlaaDoorPx6
import Derived.Test.YtnldeohdojemlaaDoorPx7
import Derived.Test.YtnldeohdojemlaaDoorLBytes
namespace Go.Proofs.YtnldeohdojemlaaDoor.L
open Go Go.RowKit Go.Proofs.YtnldeohdojemlaaDoor.P Go.Proofs.YtnldeohdojemlaaDoorW.PrintWords Go.Proofs.YtnldeohdojemlaaDoorW.PrintLast

abbrev PT := S35
/-- A name's octets, in small letters. -/
def nb (s : ByteArray) : List UInt8 := (os s).map dns_Fold.b
/-- Are two names the same? -/
def eqN (a b : ByteArray) : Bool := nb a == nb b
/-- Few pairs of short texts. -/
def Small (m : Nat) (l : List PT) : Prop := l.length ≤ m ∧ ∀ x ∈ l, (os x.f0).length ≤ 100 ∧ (os x.f1).length ≤ 100
theorem Small.mono {m m' : Nat} {l : List PT} (h : Small m l) (hm : m ≤ m') : Small m' l := ⟨Nat.le_trans h.1 hm, h.2⟩
theorem Small.filter {m : Nat} {l : List PT} (h : Small m l) (p : PT → Bool) : Small m (l.filter p) := ⟨Nat.le_trans (List.length_filter_le _ _) h.1, fun x hx => h.2 x (List.mem_filter.1 hx).1⟩

/-! #### few -/
def few (s : ByteArray) : ByteArray := if s.size > 100 then s.extract 0 100 else s
theorem few_eq (s : ByteArray) : tolllaw01_Few.f s = some (few s) := by
  unfold tolllaw01_Few.f few
  by_cases h : s.size > 100
  · rw [if_pos (by omega), if_pos (by decide), if_pos (by omega), if_pos h]
  · rw [if_neg (by omega), if_neg h]
theorem few_len (s : ByteArray) : (os (few s)).length ≤ 100 := by
  have hs := size_os s
  unfold few
  by_cases h : s.size > 100
  · rw [if_pos h, os_extract, List.length_take]; omega
  · rw [if_neg h]; omega
theorem few_id {s : ByteArray} (h : (os s).length ≤ 100) : few s = s := by
  have hs := size_os s
  unfold few
  rw [if_neg (by omega)]
def few1 (x : PT) : PT := ⟨few x.f0, few x.f1⟩
def fewL (l : List PT) : List PT := (l.take 31).map few1
theorem rd_at (l : List PT) (i : Nat) (h : i < l.length) : rd_T35 l (i : Int) = l[i] := by
  unfold rd_T35
  rw [Int.toNat_natCast, getD_at _ _ h]
theorem fewL_loop (l : List PT) : ∀ (n i k : Nat) (acc : List PT), 31 - i ≤ n → i ≤ 31 → i ≤ l.length → acc.length ≤ 1000 + i → 2 * n + 2 ≤ k → tolllaw05_Few.l0 k l acc (i : Int) = some (acc ++ ((l.drop i).take (31 - i)).map few1) := by
  intro n
  induction n with
  | zero =>
    intro i k acc h1 h2 h3 h4 h5
    obtain ⟨k, rfl⟩ : ∃ m, k = m + 2 := ⟨k - 2, by omega⟩
    obtain rfl : i = 31 := by omega
    have e : tolllaw05_Few.j1 (k + 1) l acc ((31 : Nat) : Int) false = some acc := by rw [tolllaw05_Few.j1]; rfl
    have e' : tolllaw05_Few.j1 (k + 1) l acc 31 false = some acc := e
    rw [tolllaw05_Few.l0]
    split <;> simp [e']
  | succ n ih =>
    intro i k acc h1 h2 h3 h4 h5
    obtain ⟨k, rfl⟩ : ∃ m, k = m + 2 := ⟨k - 2, by omega⟩
    have e : tolllaw05_Few.j1 (k + 1) l acc (i : Int) false = some acc := by rw [tolllaw05_Few.j1]; rfl
    rw [tolllaw05_Few.l0]
    by_cases hl : i < l.length
    · rw [if_pos (by omega)]
      by_cases h31 : i < 31
      · rw [show decide ((i : Int) < 31) = true from decide_eq_true (by omega), tolllaw05_Few.j1, if_pos rfl, if_pos (by omega), if_pos (by omega), rd_at l i hl, few_eq, Option.bind_some, few_eq, Option.bind_some, if_pos (by omega), wrap64_id (by omega) (by omega), show (i : Int) + 1 = ((i + 1 : Nat) : Int) by omega, ih (i + 1) k _ (by omega) (by omega) (by omega) (by rw [List.length_append, List.length_singleton]; omega) (by omega)]
        rw [List.append_assoc, show 31 - i = (31 - (i + 1)) + 1 by omega, List.drop_eq_getElem_cons hl, List.take_succ_cons, List.map_cons]
        rfl
      · obtain rfl : i = 31 := by omega
        rw [show decide (((31 : Nat) : Int) < 31) = false from rfl, e]; rw [Nat.sub_self, List.take_zero]; simp
    · obtain rfl : i = l.length := by omega
      rw [if_neg (by omega), e]; simp
theorem fewL_eq (l : List PT) (k : Nat) (hk : 70 ≤ k) : tolllaw05_Few.f k l = some (fewL l) := by
  unfold tolllaw05_Few.f fewL
  have := fewL_loop l 31 0 k [] (by omega) (by omega) (by omega) (by simp) (by omega)
  simpa using this
theorem fewL_small (l : List PT) : Small 31 (fewL l) := by
  refine ⟨by unfold fewL; rw [List.length_map, List.length_take]; omega, fun x hx => ?_⟩
  obtain ⟨y, _, rfl⟩ := List.mem_map.1 hx
  exact ⟨few_len _, few_len _⟩
theorem fewL_id {l : List PT} (h : Small 31 l) : fewL l = l := by
  unfold fewL
  rw [List.take_of_length_le h.1]
  conv => rhs; rw [← List.map_id l]
  refine List.map_congr_left fun x hx => ?_
  show (⟨few x.f0, few x.f1⟩ : PT) = x
  rw [few_id (h.2 x hx).1, few_id (h.2 x hx).2]

/-! #### names -/
theorem fold_p (s : ByteArray) (h : (os s).length ≤ 1000) : dns_Fold.f s = some ⟨(nb s).toArray⟩ := by
  have hs := size_os s
  unfold dns_Fold.f
  rw [if_pos (by omega)]
  rfl
theorem same_p (a b : ByteArray) (ha : (os a).length ≤ 1000) (hb : (os b).length ≤ 1000) : pairs_Same.f a b = some (eqN a b) := by
  unfold pairs_Same.f eqN
  rw [fold_p a ha, Option.bind_some, fold_p b hb, Option.bind_some, toList_os, toList_os]
theorem eqN_refl (a : ByteArray) : eqN a a = true := by unfold eqN; simp
theorem eqN_symm (a b : ByteArray) : eqN a b = eqN b a := by unfold eqN; rw [Bool.eq_iff_iff, beq_iff_eq, beq_iff_eq]; exact eq_comm
theorem eqN_iff {a b : ByteArray} : eqN a b = true ↔ nb a = nb b := by unfold eqN; exact beq_iff_eq
theorem eqN_trans {a b : ByteArray} (h : eqN a b = true) (c : ByteArray) : eqN a c = eqN b c := by unfold eqN; rw [eqN_iff.1 h]
theorem eqN_trans' {a b : ByteArray} (h : eqN a b = true) (c : ByteArray) : eqN c a = eqN c b := by unfold eqN; rw [eqN_iff.1 h]
theorem nums1 (c : Int) : os (strOfNums [c]) = [UInt8.ofNat c.toNat] := rfl
theorem foldR_loop (s : ByteArray) (hs : (os s).length ≤ 1000) : ∀ (n i k : Nat) (acc : ByteArray), (os s).length - i ≤ n → i ≤ (os s).length → (os acc).length ≤ 1000 + i → n + 1 ≤ k → ∃ t, tollref01_Fold.l0 k s acc (i : Int) = some t ∧ os t = os acc ++ ((os s).drop i).map dns_Fold.b := by
  have hsz := size_os s
  intro n
  induction n with
  | zero =>
    intro i k acc h1 h2 h3 h4
    obtain ⟨k, rfl⟩ : ∃ m, k = m + 1 := ⟨k - 1, by omega⟩
    rw [tollref01_Fold.l0, if_neg (by omega)]
    refine ⟨_, rfl, ?_⟩
    rw [List.drop_eq_nil_of_le (by omega)]; simp
  | succ n ih =>
    intro i k acc h1 h2 h3 h4
    obtain ⟨k, rfl⟩ : ∃ m, k = m + 1 := ⟨k - 1, by omega⟩
    by_cases hi : i < (os s).length
    · have hacc := size_os acc
      have hb : bt s (i : Int) = (((os s)[i]'hi).toNat : Int) := by rw [bt_os, List.getElem?_eq_getElem hi]; rfl
      have hlt := ((os s)[i]'hi).toNat_lt
      have step : ∀ c : Int, UInt8.ofNat c.toNat = dns_Fold.b ((os s)[i]'hi) → ∃ t, ((some (([c] : List Int) : List Int)).bind fun y => (if acc.size + (strOfNums y).size ≤ 9223372036854775807 then (tollref01_Fold.l0 k s (acc ++ (strOfNums y)) (wrap64 ((i : Int) + 1))) else (none))) = some t ∧ os t = os acc ++ ((os s).drop i).map dns_Fold.b := by
        intro c hc
        rw [Option.bind_some, if_pos (by rw [strOfNums_size]; simp; omega), wrap64_id (by omega) (by omega), show (i : Int) + 1 = ((i + 1 : Nat) : Int) by omega]
        obtain ⟨t, e, ht⟩ := ih (i + 1) k (acc ++ strOfNums [c]) (by omega) (by omega) (by rw [os_append, nums1, List.length_append, List.length_singleton]; omega) (by omega)
        refine ⟨t, e, ?_⟩
        rw [ht, os_append, nums1, List.drop_eq_getElem_cons hi, List.map_cons, hc, List.append_assoc]
        rfl
      rw [tollref01_Fold.l0, if_pos (by omega), if_pos (by omega)]
      rw [hb]
      by_cases c1 : (65 : Int) ≤ (((os s)[i]'hi).toNat : Int)
      · rw [if_pos c1]
        by_cases c2 : (((os s)[i]'hi).toNat : Int) ≤ 90
        · rw [if_pos c2]
          refine step _ ?_
          unfold dns_Fold.b
          rw [if_pos (by omega)]
          congr 1
          omega
        · rw [if_neg c2]
          refine step _ ?_
          unfold dns_Fold.b
          rw [if_neg (by omega), Int.toNat_natCast, UInt8.ofNat_toNat]
      · rw [if_neg c1]
        refine step _ ?_
        unfold dns_Fold.b
        rw [if_neg (by omega), Int.toNat_natCast, UInt8.ofNat_toNat]
    · rw [tollref01_Fold.l0, if_neg (by omega)]
      refine ⟨_, rfl, ?_⟩
      rw [List.drop_eq_nil_of_le (by omega)]; simp
theorem same_r (a b : ByteArray) (k : Nat) (hk : 200 ≤ k) (ha : (os a).length ≤ 100) (hb : (os b).length ≤ 100) : tollref05_Same.f k a b = some (eqN a b) := by
  unfold tollref05_Same.f tollref01_Fold.f eqN
  obtain ⟨t, e, ht⟩ := foldR_loop a (by omega) 100 0 k ⟨#[]⟩ (by omega) (by omega) (by simp) (by omega)
  obtain ⟨u, e', hu⟩ := foldR_loop b (by omega) 100 0 k ⟨#[]⟩ (by omega) (by omega) (by simp) (by omega)
  have e1 : tollref01_Fold.l0 k a ⟨#[]⟩ 0 = some t := e
  have e2 : tollref01_Fold.l0 k b ⟨#[]⟩ 0 = some u := e'
  rw [e1, Option.bind_some, e2, Option.bind_some, toList_os, toList_os, ht, hu]
  rfl

/-! #### the program's -/
theorem pOf_p {n : ByteArray} (hn : (os n).length ≤ 100) {x : PT} (hx : (os x.f0).length ≤ 100) : pOf pairs_Same.f n x = eqN x.f0 n := by
  unfold pOf
  rw [same_p _ _ (by omega) (by omega)]
  cases eqN x.f0 n <;> rfl
theorem qAll_p {n : ByteArray} (hn : (os n).length ≤ 100) {m : Nat} {l : List PT} (hl : Small m l) : qAll pairs_Same.f l n = true :=
  List.all_eq_true.2 fun x hx => by rw [same_p _ _ (by have := (hl.2 x hx).1; omega) (by omega)]; rfl
theorem filter_p {n : ByteArray} (hn : (os n).length ≤ 100) {m : Nat} {l : List PT} (hl : Small m l) : (l.filter fun x => !pOf pairs_Same.f n x) = l.filter fun x => !eqN x.f0 n :=
  List.filter_congr fun x hx => by rw [pOf_p hn (hl.2 x hx).1]
theorem drop_p {n : ByteArray} (hn : (os n).length ≤ 100) {m : Nat} {l : List PT} (hl : Small m l) (hm : m ≤ 1000) : pairs_Drop.f l n = some (l.filter fun x => !eqN x.f0 n) := by
  unfold pairs_Drop.f
  rw [if_pos ⟨qAll_p hn hl, by have := hl.1; omega⟩, filter_p hn hl]
theorem add_p (n v : ByteArray) {m : Nat} {l : List PT} (hl : Small m l) (hm : m ≤ 1000) : pairs_Add.f l n v = some (l ++ [⟨n, v⟩]) := by
  have := hl.1
  unfold pairs_Add.f api_Pair_45.f
  rw [if_pos (by omega), Option.bind_some, if_pos (by omega)]
theorem idxI_congr {α : Type} {p q : α → Bool} {l : List α} (h : ∀ x ∈ l, p x = q x) : idxI p l = idxI q l := by
  rcases idxI_spec p l with ⟨e, ha⟩ | ⟨k, hk, e, h1, h0⟩
  · rw [e, idxI_miss q l (fun j hj => by rw [← h _ (List.getElem_mem hj)]; exact ha _ (List.getElem_mem hj))]
  · rw [e, idxI_hit q l k hk (fun j hj => by rw [← h _ (List.getElem_mem _)]; exact h0 j hj) (by rw [← h _ (List.getElem_mem _)]; exact h1)]
/-- What is got: the first that holds. -/
theorem getI_find (q : ByteArray → ByteArray → Option Bool) (l : List PT) (n : ByteArray) : getI q l n = match l.find? (pOf q n) with | none => ((⟨#[]⟩ : ByteArray), false) | some x => (x.f1, true) := by
  unfold getI
  rcases idxI_spec (pOf q n) l with ⟨e, ha⟩ | ⟨k, hk, e, h1, h0⟩
  · rw [e, if_pos (by decide), List.find?_eq_none.2 (fun x hx => by rw [ha x hx]; decide)]
  · rw [e, if_neg (by omega), rd_at l k hk]
    have : l.find? (pOf q n) = some (l[k]'hk) := by
      rw [List.find?_eq_some_iff_getElem]
      exact ⟨h1, k, hk, rfl, fun j hj => by rw [h0 j hj]; rfl⟩
    rw [this]
theorem find_congr {α : Type} {p q : α → Bool} : ∀ {l : List α}, (∀ x ∈ l, p x = q x) → l.find? p = l.find? q
  | [], _ => rfl
  | a :: r, h => by rw [List.find?_cons, List.find?_cons, h a List.mem_cons_self, find_congr (fun x hx => h x (List.mem_cons_of_mem _ hx))]
def getL (l : List PT) (n : ByteArray) : ByteArray × Bool := match l.find? (fun x => eqN x.f0 n) with | none => ((⟨#[]⟩ : ByteArray), false) | some x => (x.f1, true)
theorem get_p {n : ByteArray} (hn : (os n).length ≤ 100) {m : Nat} {l : List PT} (hl : Small m l) : pairs_Get.f l n = some (getL l n) := by
  unfold pairs_Get.f
  rw [if_pos (qAll_p hn hl), getI_find, find_congr (fun x hx => pOf_p hn (hl.2 x hx).1)]
  rfl
/-- Pairs in which a name is set: in place of the first of its name, or behind all. -/
def setL (n v : ByteArray) : List PT → Bool → List PT
  | [], done => if done = true then [] else [⟨n, v⟩]
  | x :: r, done => if eqN x.f0 n = true then (if done = true then setL n v r true else ⟨n, v⟩ :: setL n v r true) else x :: setL n v r done
theorem setL_true (n v : ByteArray) : ∀ l : List PT, setL n v l true = l.filter fun x => !eqN x.f0 n
  | [] => rfl
  | x :: r => by
    rw [setL, setL_true n v r, List.filter_cons]
    cases eqN x.f0 n <;> rfl
theorem setL_skip (n v : ByteArray) : ∀ (p l : List PT), (∀ x ∈ p, eqN x.f0 n = false) → setL n v (p ++ l) false = p ++ setL n v l false
  | [], l, _ => rfl
  | x :: r, l, h => by
    rw [List.cons_append, setL, h x List.mem_cons_self, if_neg (by decide), setL_skip n v r l (fun y hy => h y (List.mem_cons_of_mem _ hy)), List.cons_append]
theorem filter_none (n : ByteArray) (p : List PT) (h : ∀ x ∈ p, eqN x.f0 n = false) : (p.filter fun x => !eqN x.f0 n) = p := List.filter_eq_self.2 fun x hx => by rw [h x hx]; rfl
/-- Either there is none of the name, or a first one. -/
theorem split_n (n : ByteArray) (l : List PT) : (∀ x ∈ l, eqN x.f0 n = false) ∨ ∃ p x r, l = p ++ x :: r ∧ eqN x.f0 n = true ∧ ∀ y ∈ p, eqN y.f0 n = false := by
  induction l with
  | nil => exact .inl (fun x hx => by cases hx)
  | cons a r ih =>
    cases h : eqN a.f0 n with
    | true => exact .inr ⟨[], a, r, rfl, h, fun y hy => by cases hy⟩
    | false =>
      rcases ih with ih | ⟨p, x, r', e, h1, h2⟩
      · refine .inl fun x hx => ?_
        rcases List.mem_cons.1 hx with rfl | hx
        · exact h
        · exact ih x hx
      · refine .inr ⟨a :: p, x, r', by rw [e]; rfl, h1, fun y hy => ?_⟩
        rcases List.mem_cons.1 hy with rfl | hy
        · exact h
        · exact h2 y hy
theorem set_p {n : ByteArray} (hn : (os n).length ≤ 100) (v : ByteArray) {m : Nat} {l : List PT} (hl : Small m l) (hm : m ≤ 1000) : pairs_Set.f l n v = some (setL n v l false) := by
  unfold pairs_Set.f
  rw [if_pos (qAll_p hn hl), idxI_congr (fun x hx => pOf_p hn (hl.2 x hx).1)]
  rcases split_n n l with h | ⟨p, x, r, rfl, h1, h0⟩
  · rw [idxI_miss _ l (fun j hj => h _ (List.getElem_mem hj)), if_pos (by decide), add_p n v hl hm]
    have := setL_skip n v l [] h
    rw [List.append_nil] at this
    rw [this]; rfl
  · have hi : idxI (fun x : PT => eqN x.f0 n) (p ++ x :: r) = (p.length : Int) := idxI_hit _ _ p.length (by simp) (fun j hj => by rw [List.getElem_append_left hj]; exact h0 _ (List.getElem_mem hj)) (by simpa using h1)
    rw [hi, if_neg (by omega), drop_p hn hl hm, setL_skip n v p _ h0, Int.toNat_natCast, List.filter_append, filter_none n p h0, setL, if_pos h1, if_neg (by decide), setL_true]
    simp [h1]
theorem setL_small {n v : ByteArray} (hn : (os n).length ≤ 100) (hv : (os v).length ≤ 100) {m : Nat} {l : List PT} (hl : Small m l) : Small (m + 1) (setL n v l false) := by
  rcases split_n n l with h | ⟨p, x, r, rfl, h1, h0⟩
  · have := setL_skip n v l [] h
    rw [List.append_nil] at this
    rw [this]
    refine ⟨by have := hl.1; simp [setL]; omega, fun y hy => ?_⟩
    rcases List.mem_append.1 hy with hy | hy
    · exact hl.2 y hy
    · rw [show setL n v [] false = [⟨n, v⟩] from rfl, List.mem_singleton] at hy
      rw [hy]; exact ⟨hn, hv⟩
  · rw [setL_skip n v p _ h0, setL, if_pos h1, if_neg (by decide), setL_true]
    have h3 := List.length_filter_le (fun x : PT => !eqN x.f0 n) r
    have h4 := hl.1
    rw [List.length_append, List.length_cons] at h4
    refine ⟨by rw [List.length_append, List.length_cons]; omega, fun y hy => ?_⟩
    rcases List.mem_append.1 hy with hy | hy
    · exact hl.2 y (List.mem_append_left _ hy)
    · rcases List.mem_cons.1 hy with rfl | hy
      · exact ⟨hn, hv⟩
      · exact hl.2 y (List.mem_append_right _ (List.mem_cons_of_mem _ (List.mem_filter.1 hy).1))

/-! #### the reference's -/
theorem wrapS {i : Nat} (h : i ≤ 100000) : wrap64 ((i : Int) + 1) = ((i + 1 : Nat) : Int) := by rw [wrap64_id (by omega) (by omega)]; omega
theorem same4_loop (l : List PT) (hl : l.length ≤ 10000) : ∀ (n i k : Nat), l.length - i ≤ n → i ≤ l.length → n + 1 ≤ k → tollref04_Same.l0 k l l (i : Int) = some true := by
  intro n
  induction n with
  | zero =>
    intro i k h1 h2 h3
    obtain ⟨k, rfl⟩ : ∃ m, k = m + 1 := ⟨k - 1, by omega⟩
    rw [tollref04_Same.l0, if_neg (by omega)]
  | succ n ih =>
    intro i k h1 h2 h3
    obtain ⟨k, rfl⟩ : ∃ m, k = m + 1 := ⟨k - 1, by omega⟩
    rw [tollref04_Same.l0]
    by_cases hi : i < l.length
    · rw [if_pos (by omega), if_pos (by omega), if_pos (by omega), if_neg (by simp), wrapS (by omega)]
      exact ih (i + 1) k (by omega) (by omega) (by omega)
    · rw [if_neg (by omega)]
theorem same4 (l : List PT) (k : Nat) (hl : l.length ≤ 500) (hk : 600 ≤ k) : tollref04_Same.f k l l = some true := by
  unfold tollref04_Same.f
  rw [if_pos rfl]
  exact same4_loop l (by omega) l.length 0 k (by omega) (by omega) (by omega)
theorem same1_loop (l : List ByteArray) (hl : l.length ≤ 10000) : ∀ (n i k : Nat), l.length - i ≤ n → i ≤ l.length → n + 1 ≤ k → tollref01_Same.l0 k l l (i : Int) = some true := by
  intro n
  induction n with
  | zero =>
    intro i k h1 h2 h3
    obtain ⟨k, rfl⟩ : ∃ m, k = m + 1 := ⟨k - 1, by omega⟩
    rw [tollref01_Same.l0, if_neg (by omega)]
  | succ n ih =>
    intro i k h1 h2 h3
    obtain ⟨k, rfl⟩ : ∃ m, k = m + 1 := ⟨k - 1, by omega⟩
    rw [tollref01_Same.l0]
    by_cases hi : i < l.length
    · rw [if_pos (by omega), if_pos (by omega), if_pos (by omega), if_pos rfl, wrapS (by omega)]
      exact ih (i + 1) k (by omega) (by omega) (by omega)
    · rw [if_neg (by omega)]
theorem same1 (l : List ByteArray) (k : Nat) (hl : l.length ≤ 500) (hk : 600 ≤ k) : tollref01_Same.f k l l = some true := by
  unfold tollref01_Same.f
  rw [if_pos rfl]
  exact same1_loop l (by omega) l.length 0 k (by omega) (by omega) (by omega)
def allL (n : ByteArray) (l : List PT) : List ByteArray := (l.filter fun x => eqN x.f0 n).map fun x => x.f1
theorem all_loop (n : ByteArray) (hn : (os n).length ≤ 100) (l : List PT) (hl : Small 100 l) : ∀ (c i k : Nat) (acc : List ByteArray), l.length - i ≤ c → i ≤ l.length → acc.length ≤ 1000 + i → c + 1 ≤ k → pairs_All.l0 k n acc l (l.length : Int) (i : Int) = some (acc ++ allL n (l.drop i)) := by
  have hl1 := hl.1
  intro c
  induction c with
  | zero =>
    intro i k acc h1 h2 h3 h4
    obtain ⟨k, rfl⟩ : ∃ m, k = m + 1 := ⟨k - 1, by omega⟩
    rw [pairs_All.l0, if_neg (by omega), List.drop_eq_nil_of_le (by omega)]; simp [allL]
  | succ c ih =>
    intro i k acc h1 h2 h3 h4
    obtain ⟨k, rfl⟩ : ∃ m, k = m + 1 := ⟨k - 1, by omega⟩
    rw [pairs_All.l0]
    by_cases hi : i < l.length
    · have hx := (hl.2 _ (List.getElem_mem hi))
      rw [if_pos (by omega), if_pos (by omega), if_pos (by omega), rd_at l i hi, same_p _ _ (by omega) (by omega), Option.bind_some, List.drop_eq_getElem_cons hi, allL, List.filter_cons, wrapS (by omega)]
      cases hq : eqN (l[i]'hi).f0 n with
      | true =>
        rw [if_pos rfl, if_pos (by omega), ih (i + 1) k _ (by omega) (by omega) (by rw [List.length_append, List.length_singleton]; omega) (by omega), List.append_assoc]; rfl
      | false =>
        rw [if_neg (by decide), ih (i + 1) k acc (by omega) (by omega) (by omega) (by omega)]; rfl
    · rw [if_neg (by omega), List.drop_eq_nil_of_le (by omega)]; simp [allL]
theorem all_p {n : ByteArray} (hn : (os n).length ≤ 100) {l : List PT} (hl : Small 100 l) (k : Nat) (hk : 200 ≤ k) : pairs_All.f k l n = some (allL n l) := by
  have := all_loop n hn l hl l.length 0 k [] (by omega) (by omega) (by simp) (by have := hl.1; omega)
  simpa [pairs_All.f] using this
theorem allR_loop (n : ByteArray) (hn : (os n).length ≤ 100) (l : List PT) (hl : Small 100 l) : ∀ (c i k : Nat) (acc : List ByteArray), l.length - i ≤ c → i ≤ l.length → acc.length ≤ 1000 + i → c + 250 ≤ k → tollref05_All.l0 k l n acc (i : Int) = some (acc ++ allL n (l.drop i)) := by
  have hl1 := hl.1
  intro c
  induction c with
  | zero =>
    intro i k acc h1 h2 h3 h4
    obtain ⟨k, rfl⟩ : ∃ m, k = m + 1 := ⟨k - 1, by omega⟩
    rw [tollref05_All.l0, if_neg (by omega), List.drop_eq_nil_of_le (by omega)]; simp [allL]
  | succ c ih =>
    intro i k acc h1 h2 h3 h4
    obtain ⟨k, rfl⟩ : ∃ m, k = m + 1 := ⟨k - 1, by omega⟩
    rw [tollref05_All.l0]
    by_cases hi : i < l.length
    · have hx := (hl.2 _ (List.getElem_mem hi))
      rw [if_pos (by omega), if_pos (by omega), rd_at l i hi, same_r _ _ k (by omega) hx.1 hn, Option.bind_some, List.drop_eq_getElem_cons hi, allL, List.filter_cons, wrapS (by omega)]
      cases hq : eqN (l[i]'hi).f0 n with
      | true =>
        rw [if_pos rfl, if_pos (by omega), ih (i + 1) k _ (by omega) (by omega) (by rw [List.length_append, List.length_singleton]; omega) (by omega), List.append_assoc]; rfl
      | false =>
        rw [if_neg (by decide), ih (i + 1) k acc (by omega) (by omega) (by omega) (by omega)]; rfl
    · rw [if_neg (by omega), List.drop_eq_nil_of_le (by omega)]; simp [allL]
theorem all_r {n : ByteArray} (hn : (os n).length ≤ 100) {l : List PT} (hl : Small 100 l) (k : Nat) (hk : 400 ≤ k) : tollref05_All.f k l n = some (allL n l) := by
  have := allR_loop n hn l hl l.length 0 k [] (by omega) (by omega) (by simp) (by have := hl.1; omega)
  simpa [tollref05_All.f] using this
end Go.Proofs.YtnldeohdojemlaaDoor.L
