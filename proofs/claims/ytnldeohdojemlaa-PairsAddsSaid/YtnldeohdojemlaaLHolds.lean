/- What pairs.Holds, and the reference's, answer, as a plain function on lists of pairs; the chapter's examples. -/
import Derived.Test.YtnldeohdojemlaaPx0
import Derived.Test.YtnldeohdojemlaaPx3
import Derived.Test.YtnldeohdojemlaaPx4
import Derived.Test.YtnldeohdojemlaaPx5
import Derived.Test.YtnldeohdojemlaaPx6
import Derived.Test.YtnldeohdojemlaaLPairs
namespace Go.Proofs.Ytnldeohdojemlaa.L
open Go Go.RowKit Go.Proofs.Ytnldeohdojemlaa.P Go.Proofs.YtnldeohdojemlaaW.PrintWords Go.Proofs.YtnldeohdojemlaaW.PrintLast

/-- Is a pair's name the one that is asked for? -/
def mF (fold : Bool) (x n : ByteArray) : Bool := if fold = true then eqN x n else os x == os n
/-- Is there a pair as it is asked for? -/
def holdsOne (fold : Bool) (l : List PT) (y : PT) : Bool := match l.find? (fun x => mF fold x.f0 y.f0) with | none => false | some x => os x.f1 == os y.f1
theorem holdsQ_p (fold : Bool) (a b : ByteArray) (ha : (os a).length ≤ 1000) (hb : (os b).length ≤ 1000) : holdsQ fold a b = some (mF fold a b) := by
  unfold holdsQ mF
  cases fold with
  | true => rw [if_pos rfl, if_pos rfl, same_p a b ha hb]
  | false => rw [if_neg (by decide), if_neg (by decide), toList_os, toList_os]
theorem holds_p (fold : Bool) {m m' : Nat} {a l : List PT} (ha : Small m a) (hl : Small m' l) : pairs_Holds.f a l fold = some (a.all (holdsOne fold l)) := by
  unfold pairs_Holds.f
  rw [if_pos (show (a.all fun x => qAll (holdsQ fold) l x.f0) = true from List.all_eq_true.2 fun y hy => show qAll (holdsQ fold) l y.f0 = true from List.all_eq_true.2 fun x hx => by rw [holdsQ_p fold _ _ (by have := (hl.2 x hx).1; omega) (by have := (ha.2 y hy).1; omega)]; rfl)]
  congr 1
  rw [Bool.eq_iff_iff, List.all_eq_true, List.all_eq_true]
  have : ∀ y ∈ a, holdsX fold l y = holdsOne fold l y := fun y hy => by
    unfold holdsX holdsOne
    rw [getI_find, find_congr (q := fun x : PT => mF fold x.f0 y.f0) (fun x hx => by
      unfold pOf
      rw [holdsQ_p fold _ _ (by have := (hl.2 x hx).1; omega) (by have := (ha.2 y hy).1; omega)]
      cases mF fold x.f0 y.f0 <;> rfl)]
    cases l.find? (fun x => mF fold x.f0 y.f0) with
    | none => rfl
    | some x => simp only [Bool.true_and, toList_os]
  exact ⟨fun h y hy => by rw [← this y hy]; exact h y hy, fun h y hy => by rw [this y hy]; exact h y hy⟩
def scanH (fold : Bool) (y : PT) : List PT → Bool → Bool → Bool
  | [], ok, _ => ok
  | x :: r, ok, found => if mF fold x.f0 y.f0 = true then (if found = true then scanH fold y r ok true else scanH fold y r (os x.f1 == os y.f1) true) else scanH fold y r ok found
theorem scanH_true (fold : Bool) (y : PT) : ∀ (l : List PT) (ok : Bool), scanH fold y l ok true = ok
  | [], _ => rfl
  | x :: r, ok => by rw [scanH, if_pos rfl, scanH_true fold y r ok, ite_self]
theorem scanH_one (fold : Bool) (y : PT) : ∀ (l : List PT), scanH fold y l false false = holdsOne fold l y
  | [] => rfl
  | x :: r => by
    unfold holdsOne
    rw [scanH, List.find?_cons]
    cases h : mF fold x.f0 y.f0 with
    | true => rw [if_pos rfl, if_neg (by decide), scanH_true]
    | false => rw [if_neg (by decide), scanH_one fold y r]; rfl
theorem eqN_os {a b : ByteArray} (h : os a = os b) : eqN a b = true := by unfold eqN nb; rw [h]; simp
theorem holdsR_1 (fold : Bool) (a l : List PT) (ha : Small 100 a) (hl : Small 100 l) (i : Nat) (hi : i < a.length) : ∀ (c j k : Nat) (ok found : Bool), l.length - j = c → j ≤ l.length → 250 ≤ k →
    tollref05_Holds.l1 (c + 1 + k) a l fold (i : Int) ok found (j : Int) = if scanH fold a[i] (l.drop j) ok found = true then tollref05_Holds.l0 k a l fold ((i + 1 : Nat) : Int) else some false := by
  have hl1 := hl.1
  have ha1 := ha.1
  intro c
  induction c with
  | zero =>
    intro j k ok found h1 h2 h3
    rw [show 0 + 1 + k = k + 1 by omega, tollref05_Holds.l1, if_neg (by omega), List.drop_eq_nil_of_le (by omega), wrapS (by omega)]
    rfl
  | succ c ih =>
    intro j k ok found h1 h2 h3
    have hj : j < l.length := by omega
    have hx := hl.2 _ (List.getElem_mem hj)
    have hy := ha.2 _ (List.getElem_mem hi)
    have step := fun ok found => ih (j + 1) k ok found (by omega) (by omega) h3
    rw [show c + 1 + 1 + k = (c + 1 + k) + 1 by omega, tollref05_Holds.l1, if_pos (by omega), if_pos (by omega), if_pos (by omega), if_pos (by omega), rd_at l j hj, rd_at a i hi, wrapS (by omega), List.drop_eq_getElem_cons hj, scanH, step, step, toList_os, toList_os, toList_os, toList_os]
    have e := same_r (l[j]'hj).f0 (a[i]'hi).f0 (c + 1 + k) (by omega) hx.1 hy.1
    by_cases hn : os (l[j]'hj).f0 = os (a[i]'hi).f0
    · have hm : mF fold (l[j]'hj).f0 (a[i]'hi).f0 = true := by
        unfold mF
        cases fold
        · simpa using hn
        · simpa using eqN_os hn
      rw [if_pos hn, if_pos hm]
      cases found <;> rfl
    · rw [if_neg hn]
      cases fold with
      | false =>
        have hm : mF false (l[j]'hj).f0 (a[i]'hi).f0 = false := by unfold mF; simpa using hn
        rw [hm]; rfl
      | true =>
        rw [if_pos rfl, e, Option.bind_some]
        have hm : mF true (l[j]'hj).f0 (a[i]'hi).f0 = eqN (l[j]'hj).f0 (a[i]'hi).f0 := rfl
        rw [hm]
        cases eqN (l[j]'hj).f0 (a[i]'hi).f0 with
        | true =>
          rw [if_pos rfl, if_pos rfl]
          cases found <;> rfl
        | false => rfl
theorem holdsR_0 (fold : Bool) (a l : List PT) (ha : Small 100 a) (hl : Small 100 l) : ∀ (c i k : Nat), a.length - i = c → i ≤ a.length → c * (l.length + 2) + 300 ≤ k → tollref05_Holds.l0 k a l fold (i : Int) = some ((a.drop i).all (holdsOne fold l)) := by
  have ha1 := ha.1
  intro c
  induction c with
  | zero =>
    intro i k h1 h2 h3
    obtain ⟨k, rfl⟩ : ∃ m, k = m + 1 := ⟨k - 1, by omega⟩
    rw [tollref05_Holds.l0, if_neg (by omega), List.drop_eq_nil_of_le (by omega)]; rfl
  | succ c ih =>
    intro i k h1 h2 h3
    rw [Nat.succ_mul] at h3
    have hi : i < a.length := by omega
    obtain ⟨k, rfl⟩ : ∃ m, k = (l.length + 1 + m) + 1 := ⟨k - l.length - 2, by omega⟩
    have h := holdsR_1 fold a l ha hl i hi l.length 0 k false false (by omega) (by omega) (by omega)
    rw [List.drop_zero, scanH_one] at h
    rw [tollref05_Holds.l0, if_pos (by omega)]
    rw [show (0 : Int) = ((0 : Nat) : Int) from rfl, h, List.drop_eq_getElem_cons hi, List.all_cons]
    cases holdsOne fold l (a[i]'hi) with
    | true => rw [if_pos rfl, ih (i + 1) k (by omega) (by omega) (by omega)]; rfl
    | false => rw [if_neg (by decide)]; rfl
theorem holds_r (fold : Bool) {a l : List PT} (ha : Small 31 a) (hl : Small 31 l) (k : Nat) (hk : 3000 ≤ k) : tollref05_Holds.f k a l fold = some (a.all (holdsOne fold l)) := by
  have h := holdsR_0 fold a l (ha.mono (by decide)) (hl.mono (by decide)) a.length 0 k (by omega) (by omega) (by
    have h1 := ha.1
    have h2 := hl.1
    have : a.length * (l.length + 2) ≤ 31 * 33 := Nat.mul_le_mul h1 (by omega)
    omega)
  rw [List.drop_zero] at h
  exact h
theorem pairs_awake (k : Nat) (hk : 600 ≤ k) : tolllaw05_awake.f k = some true := by
  have small : ∀ l : List PT, l.all (fun x => decide ((os x.f0).length ≤ 100) && decide ((os x.f1).length ≤ 100)) = true → Small l.length l := fun l h => ⟨Nat.le_refl _, fun x hx => by
    have := List.all_eq_true.1 h x hx
    simpa using this⟩
  unfold tolllaw05_awake.f
  rw [get_p (by decide) (small _ (by decide)), Option.bind_some, set_p (by decide) _ (small _ (by decide)) (by decide), Option.bind_some, Option.bind_some, Option.bind_some, toList_os]
  rw [if_pos (by decide), if_pos (by decide)]
  rw [show setL ⟨#[97]⟩ ⟨#[51]⟩ [(⟨(⟨#[97]⟩ : ByteArray), (⟨#[49]⟩ : ByteArray)⟩ : PT), (⟨(⟨#[98]⟩ : ByteArray), (⟨#[50]⟩ : ByteArray)⟩ : PT), (⟨(⟨#[65]⟩ : ByteArray), (⟨#[52]⟩ : ByteArray)⟩ : PT)] false = [(⟨(⟨#[97]⟩ : ByteArray), (⟨#[51]⟩ : ByteArray)⟩ : PT), (⟨(⟨#[98]⟩ : ByteArray), (⟨#[50]⟩ : ByteArray)⟩ : PT)] from rfl]
  rw [same4 _ k (by decide) hk, Option.bind_some, if_pos rfl, holds_p true (small _ (by decide)) (small _ (by decide)), Option.bind_some, if_pos (by decide), holds_p false (small _ (by decide)) (small _ (by decide)), Option.bind_some, if_neg (by decide)]
end Go.Proofs.Ytnldeohdojemlaa.L
