import Derived.Test.YtglghmcdcdljoaaPx0
import Derived.Test.YtglghmcdcdljoaaPx2
import Derived.Test.YtglghmcdcdljoaaPx3
import Derived.Test.YtglghmcdcdljoaaWWords
import Derived.Laws.Strings
namespace Go.Proofs.Ytglghmcdcdljoaa.L
open Go Go.RowKit Go.Proofs.YtglghmcdcdljoaaW.PrintWords

abbrev os (s : ByteArray) : List UInt8 := s.data.toList

theorem toList_os (s : ByteArray) : s.toList = os s := ByteArray.toList_eq s
theorem size_os (s : ByteArray) : s.size = (os s).length := (Array.length_toList (xs := s.data)).symm
theorem os_extract (s : ByteArray) (a b : Nat) : os (s.extract a b) = ((os s).drop a).take (b - a) := by
  simp [os, ByteArray.data_extract, Array.toList_extract, List.extract]
theorem wrap64_id {x : Int} (h1 : -9223372036854775808 ≤ x) (h2 : x ≤ 9223372036854775807) : wrap64 x = x := by unfold wrap64; omega
end Go.Proofs.Ytglghmcdcdljoaa.L
namespace Go.Proofs.Ytglghmcdcdljoaa.L
open Go Go.RowKit Go.Proofs.Ytglghmcdcdljoaa.P Go.Proofs.YtglghmcdcdljoaaW.PrintWords Go.Proofs.YtglghmcdcdljoaaW.PrintLast

abbrev PT := S24
noncomputable def nb (s : ByteArray) : List UInt8 := (os s).map dns_Fold.b
noncomputable def eqN (a b : ByteArray) : Bool := nb a == nb b
noncomputable def Small (m : Nat) (l : List PT) : Prop := l.length ≤ m ∧ ∀ x ∈ l, (os x.f0).length ≤ 100 ∧ (os x.f1).length ≤ 100
theorem Small.filter {m : Nat} {l : List PT} (h : Small m l) (p : PT → Bool) : Small m (l.filter p) := ⟨Nat.le_trans (List.length_filter_le _ _) h.1, fun x hx => h.2 x (List.mem_filter.1 hx).1⟩

noncomputable def few (s : ByteArray) : ByteArray := if s.size > 100 then s.extract 0 100 else s
theorem few_eq (s : ByteArray) : tolllaw01_Few.f s = some (few s) := by
  unfold tolllaw01_Few.f few
  by_cases h : s.size > 100
  · rw [if_pos (by omega), if_pos (by decide), if_pos (by omega), if_pos h]
  · rw [if_neg (by omega), if_neg h]
theorem few_len (s : ByteArray) : (os (few s)).length ≤ 100 := by
  have hs := size_os s
  unfold few
  by_cases h : s.size > 100
  · rw [if_pos h, os_extract, List.length_take]; omega
  · rw [if_neg h]; omega
noncomputable def few1 (x : PT) : PT := ⟨few x.f0, few x.f1⟩
noncomputable def fewL (l : List PT) : List PT := (l.take 31).map few1
theorem rd_at (l : List PT) (i : Nat) (h : i < l.length) : rd_T24 l (i : Int) = l[i] := by
  unfold rd_T24
  rw [Int.toNat_natCast, getD_at _ _ h]
theorem fewL_loop (l : List PT) : ∀ (n i k : Nat) (acc : List PT), 31 - i ≤ n → i ≤ 31 → i ≤ l.length → acc.length ≤ 1000 + i → 2 * n + 2 ≤ k → tolllaw05_Few.l0 k l acc (i : Int) = some (acc ++ ((l.drop i).take (31 - i)).map few1) := by
  intro n
  induction n with
  | zero =>
    intro i k acc h1 h2 h3 h4 h5
    obtain ⟨k, rfl⟩ : ∃ m, k = m + 2 := ⟨k - 2, by omega⟩
    obtain rfl : i = 31 := by omega
    have e : tolllaw05_Few.j1 (k + 1) l acc ((31 : Nat) : Int) false = some acc := by rw [tolllaw05_Few.j1]; rfl
    have e' : tolllaw05_Few.j1 (k + 1) l acc 31 false = some acc := e
    rw [tolllaw05_Few.l0]
    split <;> simp [e']
  | succ n ih =>
    intro i k acc h1 h2 h3 h4 h5
    obtain ⟨k, rfl⟩ : ∃ m, k = m + 2 := ⟨k - 2, by omega⟩
    have e : tolllaw05_Few.j1 (k + 1) l acc (i : Int) false = some acc := by rw [tolllaw05_Few.j1]; rfl
    rw [tolllaw05_Few.l0]
    by_cases hl : i < l.length
    · rw [if_pos (by omega)]
      by_cases h31 : i < 31
      · rw [show decide ((i : Int) < 31) = true from decide_eq_true (by omega), tolllaw05_Few.j1, if_pos rfl, if_pos (by omega), if_pos (by omega), rd_at l i hl, few_eq, Option.bind_some, few_eq, Option.bind_some, if_pos (by omega), wrap64_id (by omega) (by omega), show (i : Int) + 1 = ((i + 1 : Nat) : Int) by omega, ih (i + 1) k _ (by omega) (by omega) (by omega) (by rw [List.length_append, List.length_singleton]; omega) (by omega)]
        rw [List.append_assoc, show 31 - i = (31 - (i + 1)) + 1 by omega, List.drop_eq_getElem_cons hl, List.take_succ_cons, List.map_cons]
        rfl
      · obtain rfl : i = 31 := by omega
        rw [show decide (((31 : Nat) : Int) < 31) = false from rfl, e]; rw [Nat.sub_self, List.take_zero]; simp
    · obtain rfl : i = l.length := by omega
      rw [if_neg (by omega), e]; simp
theorem fewL_eq (l : List PT) (k : Nat) (hk : 70 ≤ k) : tolllaw05_Few.f k l = some (fewL l) := by
  unfold tolllaw05_Few.f fewL
  have := fewL_loop l 31 0 k [] (by omega) (by omega) (by omega) (by simp) (by omega)
  simpa using this
theorem fewL_small (l : List PT) : Small 31 (fewL l) := by
  refine ⟨by unfold fewL; rw [List.length_map, List.length_take]; omega, fun x hx => ?_⟩
  obtain ⟨y, _, rfl⟩ := List.mem_map.1 hx
  exact ⟨few_len _, few_len _⟩
theorem fold_p (s : ByteArray) (h : (os s).length ≤ 1000) : dns_Fold.f s = some ⟨(nb s).toArray⟩ := by
  have hs := size_os s
  unfold dns_Fold.f
  rw [if_pos (by omega)]
  rfl
theorem same_p (a b : ByteArray) (ha : (os a).length ≤ 1000) (hb : (os b).length ≤ 1000) : pairs_Same.f a b = some (eqN a b) := by
  unfold pairs_Same.f eqN
  rw [fold_p a ha, Option.bind_some, fold_p b hb, Option.bind_some, toList_os, toList_os]
theorem eqN_refl (a : ByteArray) : eqN a a = true := by unfold eqN; simp
theorem eqN_symm (a b : ByteArray) : eqN a b = eqN b a := by unfold eqN; rw [Bool.eq_iff_iff, beq_iff_eq, beq_iff_eq]; exact eq_comm
theorem eqN_iff {a b : ByteArray} : eqN a b = true ↔ nb a = nb b := by unfold eqN; exact beq_iff_eq
theorem eqN_trans {a b : ByteArray} (h : eqN a b = true) (c : ByteArray) : eqN a c = eqN b c := by unfold eqN; rw [eqN_iff.1 h]
theorem pOf_p {n : ByteArray} (hn : (os n).length ≤ 100) {x : PT} (hx : (os x.f0).length ≤ 100) : pOf pairs_Same.f n x = eqN x.f0 n := by
  unfold pOf
  rw [same_p _ _ (by omega) (by omega)]
  cases eqN x.f0 n <;> rfl
theorem qAll_p {n : ByteArray} (hn : (os n).length ≤ 100) {m : Nat} {l : List PT} (hl : Small m l) : qAll pairs_Same.f l n = true :=
  List.all_eq_true.2 fun x hx => by rw [same_p _ _ (by have := (hl.2 x hx).1; omega) (by omega)]; rfl
theorem filter_p {n : ByteArray} (hn : (os n).length ≤ 100) {m : Nat} {l : List PT} (hl : Small m l) : (l.filter fun x => !pOf pairs_Same.f n x) = l.filter fun x => !eqN x.f0 n :=
  List.filter_congr fun x hx => by rw [pOf_p hn (hl.2 x hx).1]
theorem drop_p {n : ByteArray} (hn : (os n).length ≤ 100) {m : Nat} {l : List PT} (hl : Small m l) (hm : m ≤ 1000) : pairs_Drop.f l n = some (l.filter fun x => !eqN x.f0 n) := by
  unfold pairs_Drop.f
  rw [if_pos ⟨qAll_p hn hl, by have := hl.1; omega⟩, filter_p hn hl]
theorem add_p (n v : ByteArray) {m : Nat} {l : List PT} (hl : Small m l) (hm : m ≤ 1000) : pairs_Add.f l n v = some (l ++ [⟨n, v⟩]) := by
  have := hl.1
  unfold pairs_Add.f api_Pair_16.f
  rw [if_pos (by omega), Option.bind_some, if_pos (by omega)]
theorem idxI_two {α : Type} (p : α → Bool) (l : List α) : (idxI p l = -1 ∧ ∀ x ∈ l, p x = false) ∨ ∃ (k : Nat) (hk : k < l.length), idxI p l = (k : Int) ∧ p (l[k]'hk) = true ∧ ∀ j (hj : j < k), p (l[j]'(by omega)) = false := by
  by_cases h : l.any p = true
  · have hlt : l.findIdx p < l.length := List.findIdx_lt_length_of_exists (by obtain ⟨x, hx, hp⟩ := List.any_eq_true.1 h; exact ⟨x, hx, hp⟩)
    have h2 := (List.findIdx_eq hlt).1 rfl
    refine .inr ⟨_, hlt, by unfold idxI; rw [if_pos h], h2.1, fun j hj => by simpa using h2.2 j hj⟩
  · refine .inl ⟨by unfold idxI; rw [if_neg h], fun x hx => ?_⟩
    have h' : l.any p = false := by simpa using h
    simpa using List.any_eq_false.1 h' x hx
theorem idxI_congr {α : Type} {p q : α → Bool} {l : List α} (h : ∀ x ∈ l, p x = q x) : idxI p l = idxI q l := by
  rcases idxI_two p l with ⟨e, ha⟩ | ⟨k, hk, e, h1, h0⟩
  · rw [e, idxI_miss q l (fun j hj => by rw [← h _ (List.getElem_mem hj)]; exact ha _ (List.getElem_mem hj))]
  · rw [e, idxI_hit q l k hk (fun j hj => by rw [← h _ (List.getElem_mem _)]; exact h0 j hj) (by rw [← h _ (List.getElem_mem _)]; exact h1)]
theorem getI_find (q : ByteArray → ByteArray → Option Bool) (l : List PT) (n : ByteArray) : getI q l n = match l.find? (pOf q n) with | none => ((⟨#[]⟩ : ByteArray), false) | some x => (x.f1, true) := by
  unfold getI
  rcases idxI_two (pOf q n) l with ⟨e, ha⟩ | ⟨k, hk, e, h1, h0⟩
  · rw [e, if_pos (by decide), List.find?_eq_none.2 (fun x hx => by rw [ha x hx]; decide)]
  · rw [e, if_neg (by omega), rd_at l k hk]
    have : l.find? (pOf q n) = some (l[k]'hk) := by
      rw [List.find?_eq_some_iff_getElem]
      exact ⟨h1, k, hk, rfl, fun j hj => by rw [h0 j hj]; rfl⟩
    rw [this]
theorem find_congr {α : Type} {p q : α → Bool} : ∀ {l : List α}, (∀ x ∈ l, p x = q x) → l.find? p = l.find? q
  | [], _ => rfl
  | a :: r, h => by rw [List.find?_cons, List.find?_cons, h a List.mem_cons_self, find_congr (fun x hx => h x (List.mem_cons_of_mem _ hx))]
noncomputable def getL (l : List PT) (n : ByteArray) : ByteArray × Bool := match l.find? (fun x => eqN x.f0 n) with | none => ((⟨#[]⟩ : ByteArray), false) | some x => (x.f1, true)
theorem get_p {n : ByteArray} (hn : (os n).length ≤ 100) {m : Nat} {l : List PT} (hl : Small m l) : pairs_Get.f l n = some (getL l n) := by
  unfold pairs_Get.f
  rw [if_pos (qAll_p hn hl), getI_find, find_congr (fun x hx => pOf_p hn (hl.2 x hx).1)]
  rfl
noncomputable def setL (n v : ByteArray) : List PT → Bool → List PT
  | [], done => if done = true then [] else [⟨n, v⟩]
  | x :: r, done => if eqN x.f0 n = true then (if done = true then setL n v r true else ⟨n, v⟩ :: setL n v r true) else x :: setL n v r done
theorem setL_true (n v : ByteArray) : ∀ l : List PT, setL n v l true = l.filter fun x => !eqN x.f0 n
  | [] => rfl
  | x :: r => by
    rw [setL, setL_true n v r, List.filter_cons]
    cases eqN x.f0 n <;> rfl
theorem setL_skip (n v : ByteArray) : ∀ (p l : List PT), (∀ x ∈ p, eqN x.f0 n = false) → setL n v (p ++ l) false = p ++ setL n v l false
  | [], l, _ => rfl
  | x :: r, l, h => by
    rw [List.cons_append, setL, h x List.mem_cons_self, if_neg (by decide), setL_skip n v r l (fun y hy => h y (List.mem_cons_of_mem _ hy)), List.cons_append]
theorem filter_none (n : ByteArray) (p : List PT) (h : ∀ x ∈ p, eqN x.f0 n = false) : (p.filter fun x => !eqN x.f0 n) = p := List.filter_eq_self.2 fun x hx => by rw [h x hx]; rfl
theorem split_n (n : ByteArray) (l : List PT) : (∀ x ∈ l, eqN x.f0 n = false) ∨ ∃ p x r, l = p ++ x :: r ∧ eqN x.f0 n = true ∧ ∀ y ∈ p, eqN y.f0 n = false := by
  induction l with
  | nil => exact .inl (fun x hx => by cases hx)
  | cons a r ih =>
    cases h : eqN a.f0 n with
    | true => exact .inr ⟨[], a, r, rfl, h, fun y hy => by cases hy⟩
    | false =>
      rcases ih with ih | ⟨p, x, r', e, h1, h2⟩
      · refine .inl fun x hx => ?_
        rcases List.mem_cons.1 hx with rfl | hx
        · exact h
        · exact ih x hx
      · refine .inr ⟨a :: p, x, r', by rw [e]; rfl, h1, fun y hy => ?_⟩
        rcases List.mem_cons.1 hy with rfl | hy
        · exact h
        · exact h2 y hy
theorem set_p {n : ByteArray} (hn : (os n).length ≤ 100) (v : ByteArray) {m : Nat} {l : List PT} (hl : Small m l) (hm : m ≤ 1000) : pairs_Set.f l n v = some (setL n v l false) := by
  unfold pairs_Set.f
  rw [if_pos (qAll_p hn hl), idxI_congr (fun x hx => pOf_p hn (hl.2 x hx).1)]
  rcases split_n n l with h | ⟨p, x, r, rfl, h1, h0⟩
  · rw [idxI_miss _ l (fun j hj => h _ (List.getElem_mem hj)), if_pos (by decide), add_p n v hl hm]
    have := setL_skip n v l [] h
    rw [List.append_nil] at this
    rw [this]; rfl
  · have hi : idxI (fun x : PT => eqN x.f0 n) (p ++ x :: r) = (p.length : Int) := idxI_hit _ _ p.length (by simp) (fun j hj => by rw [List.getElem_append_left hj]; exact h0 _ (List.getElem_mem hj)) (by simpa using h1)
    rw [hi, if_neg (by omega), drop_p hn hl hm, setL_skip n v p _ h0, Int.toNat_natCast, List.filter_append, filter_none n p h0, setL, if_pos h1, if_neg (by decide), setL_true]
    simp [h1]
theorem setL_small {n v : ByteArray} (hn : (os n).length ≤ 100) (hv : (os v).length ≤ 100) {m : Nat} {l : List PT} (hl : Small m l) : Small (m + 1) (setL n v l false) := by
  rcases split_n n l with h | ⟨p, x, r, rfl, h1, h0⟩
  · have := setL_skip n v l [] h
    rw [List.append_nil] at this
    rw [this]
    refine ⟨by have := hl.1; simp [setL]; omega, fun y hy => ?_⟩
    rcases List.mem_append.1 hy with hy | hy
    · exact hl.2 y hy
    · rw [show setL n v [] false = [⟨n, v⟩] from rfl, List.mem_singleton] at hy
      rw [hy]; exact ⟨hn, hv⟩
  · rw [setL_skip n v p _ h0, setL, if_pos h1, if_neg (by decide), setL_true]
    have h3 := List.length_filter_le (fun x : PT => !eqN x.f0 n) r
    have h4 := hl.1
    rw [List.length_append, List.length_cons] at h4
    refine ⟨by rw [List.length_append, List.length_cons]; omega, fun y hy => ?_⟩
    rcases List.mem_append.1 hy with hy | hy
    · exact hl.2 y (List.mem_append_left _ hy)
    · rcases List.mem_cons.1 hy with rfl | hy
      · exact ⟨hn, hv⟩
      · exact hl.2 y (List.mem_append_right _ (List.mem_cons_of_mem _ (List.mem_filter.1 hy).1))

theorem wrapS {i : Nat} (h : i ≤ 100000) : wrap64 ((i : Int) + 1) = ((i + 1 : Nat) : Int) := by rw [wrap64_id (by omega) (by omega)]; omega
theorem same4_loop (l : List PT) (hl : l.length ≤ 10000) : ∀ (n i k : Nat), l.length - i ≤ n → i ≤ l.length → n + 1 ≤ k → tollref04_Same.l0 k l l (i : Int) = some true := by
  intro n
  induction n with
  | zero =>
    intro i k h1 h2 h3
    obtain ⟨k, rfl⟩ : ∃ m, k = m + 1 := ⟨k - 1, by omega⟩
    rw [tollref04_Same.l0, if_neg (by omega)]
  | succ n ih =>
    intro i k h1 h2 h3
    obtain ⟨k, rfl⟩ : ∃ m, k = m + 1 := ⟨k - 1, by omega⟩
    rw [tollref04_Same.l0]
    by_cases hi : i < l.length
    · rw [if_pos (by omega), if_pos (by omega), if_pos (by omega), if_neg (by simp), wrapS (by omega)]
      exact ih (i + 1) k (by omega) (by omega) (by omega)
    · rw [if_neg (by omega)]
theorem same4 (l : List PT) (k : Nat) (hl : l.length ≤ 500) (hk : 600 ≤ k) : tollref04_Same.f k l l = some true := by
  unfold tollref04_Same.f
  rw [if_pos rfl]
  exact same4_loop l (by omega) l.length 0 k (by omega) (by omega) (by omega)
noncomputable def allL (n : ByteArray) (l : List PT) : List ByteArray := (l.filter fun x => eqN x.f0 n).map fun x => x.f1
end Go.Proofs.Ytglghmcdcdljoaa.L
namespace Go.Proofs.Ytglghmcdcdljoaa.L
open Go Go.RowKit Go.Proofs.Ytglghmcdcdljoaa.P Go.Proofs.YtglghmcdcdljoaaW.PrintWords Go.Proofs.YtglghmcdcdljoaaW.PrintLast

noncomputable def mF (fold : Bool) (x n : ByteArray) : Bool := if fold = true then eqN x n else os x == os n
noncomputable def holdsOne (fold : Bool) (l : List PT) (y : PT) : Bool := match l.find? (fun x => mF fold x.f0 y.f0) with | none => false | some x => os x.f1 == os y.f1
theorem holdsQ_p (fold : Bool) (a b : ByteArray) (ha : (os a).length ≤ 1000) (hb : (os b).length ≤ 1000) : holdsQ fold a b = some (mF fold a b) := by
  unfold holdsQ mF
  cases fold with
  | true => rw [if_pos rfl, if_pos rfl, same_p a b ha hb]
  | false => rw [if_neg (by decide), if_neg (by decide), toList_os, toList_os]
theorem holds_p (fold : Bool) {m m' : Nat} {a l : List PT} (ha : Small m a) (hl : Small m' l) : pairs_Holds.f a l fold = some (a.all (holdsOne fold l)) := by
  unfold pairs_Holds.f
  rw [if_pos (show (a.all fun x => qAll (holdsQ fold) l x.f0) = true from List.all_eq_true.2 fun y hy => show qAll (holdsQ fold) l y.f0 = true from List.all_eq_true.2 fun x hx => by rw [holdsQ_p fold _ _ (by have := (hl.2 x hx).1; omega) (by have := (ha.2 y hy).1; omega)]; rfl)]
  congr 1
  rw [Bool.eq_iff_iff, List.all_eq_true, List.all_eq_true]
  have : ∀ y ∈ a, holdsX fold l y = holdsOne fold l y := fun y hy => by
    unfold holdsX holdsOne
    rw [getI_find, find_congr (q := fun x : PT => mF fold x.f0 y.f0) (fun x hx => by
      unfold pOf
      rw [holdsQ_p fold _ _ (by have := (hl.2 x hx).1; omega) (by have := (ha.2 y hy).1; omega)]
      cases mF fold x.f0 y.f0 <;> rfl)]
    cases l.find? (fun x => mF fold x.f0 y.f0) with
    | none => rfl
    | some x => simp only [Bool.true_and, toList_os]
  exact ⟨fun h y hy => by rw [← this y hy]; exact h y hy, fun h y hy => by rw [this y hy]; exact h y hy⟩
theorem pairs_awake (k : Nat) (hk : 600 ≤ k) : tolllaw05_awake.f k = some true := by
  have small : ∀ l : List PT, l.all (fun x => decide ((os x.f0).length ≤ 100) && decide ((os x.f1).length ≤ 100)) = true → Small l.length l := fun l h => ⟨Nat.le_refl _, fun x hx => by
    have := List.all_eq_true.1 h x hx
    simpa using this⟩
  unfold tolllaw05_awake.f
  rw [get_p (by decide) (small _ (by decide)), Option.bind_some, set_p (by decide) _ (small _ (by decide)) (by decide), Option.bind_some, Option.bind_some, Option.bind_some, toList_os]
  rw [if_pos (by decide), if_pos (by decide)]
  rw [show setL ⟨#[97]⟩ ⟨#[51]⟩ [(⟨(⟨#[97]⟩ : ByteArray), (⟨#[49]⟩ : ByteArray)⟩ : PT), (⟨(⟨#[98]⟩ : ByteArray), (⟨#[50]⟩ : ByteArray)⟩ : PT), (⟨(⟨#[65]⟩ : ByteArray), (⟨#[52]⟩ : ByteArray)⟩ : PT)] false = [(⟨(⟨#[97]⟩ : ByteArray), (⟨#[51]⟩ : ByteArray)⟩ : PT), (⟨(⟨#[98]⟩ : ByteArray), (⟨#[50]⟩ : ByteArray)⟩ : PT)] from rfl]
  rw [same4 _ k (by decide) hk, Option.bind_some, if_pos rfl, holds_p true (small _ (by decide)) (small _ (by decide)), Option.bind_some, if_pos (by decide), holds_p false (small _ (by decide)) (small _ (by decide)), Option.bind_some, if_neg (by decide)]
end Go.Proofs.Ytglghmcdcdljoaa.L
