/- What pairs.Holds, and the reference's, answer, as a plain function on lists of pairs; the chapter's examples. -/
import Derived.Test.YtnldeohdojemlaaDoorPx0
import Derived.Test.YtnldeohdojemlaaDoorPx3
import Derived.Test.YtnldeohdojemlaaDoorPx7
import Derived.Test.YtnldeohdojemlaaDoorLPairs
namespace Go.Proofs.YtnldeohdojemlaaDoor.L
open Go Go.RowKit Go.Proofs.YtnldeohdojemlaaDoor.P Go.Proofs.YtnldeohdojemlaaDoorW.PrintWords Go.Proofs.YtnldeohdojemlaaDoorW.PrintLast

/-- Is a pair's name the one that is asked for? -/
def mF (fold : Bool) (x n : ByteArray) : Bool := if fold = true then eqN x n else os x == os n
/-- Is there a pair as it is asked for? -/
def holdsOne (fold : Bool) (l : List PT) (y : PT) : Bool := match l.find? (fun x => mF fold x.f0 y.f0) with | none => false | some x => os x.f1 == os y.f1
theorem holdsQ_p (fold : Bool) (a b : ByteArray) (ha : (os a).length ≤ 1000) (hb : (os b).length ≤ 1000) : holdsQ fold a b = some (mF fold a b) := by
  unfold holdsQ mF
  cases fold with
  | true => rw [if_pos rfl, if_pos rfl, same_p a b ha hb]
  | false => rw [if_neg (by decide), if_neg (by decide), toList_os, toList_os]
theorem holds_p (fold : Bool) {m m' : Nat} {a l : List PT} (ha : Small m a) (hl : Small m' l) : pairs_Holds.f a l fold = some (a.all (holdsOne fold l)) := by
  unfold pairs_Holds.f
  rw [if_pos (show (a.all fun x => qAll (holdsQ fold) l x.f0) = true from List.all_eq_true.2 fun y hy => show qAll (holdsQ fold) l y.f0 = true from List.all_eq_true.2 fun x hx => by rw [holdsQ_p fold _ _ (by have := (hl.2 x hx).1; omega) (by have := (ha.2 y hy).1; omega)]; rfl)]
  congr 1
  rw [Bool.eq_iff_iff, List.all_eq_true, List.all_eq_true]
  have : ∀ y ∈ a, holdsX fold l y = holdsOne fold l y := fun y hy => by
    unfold holdsX holdsOne
    rw [getI_find, find_congr (q := fun x : PT => mF fold x.f0 y.f0) (fun x hx => by
      unfold pOf
      rw [holdsQ_p fold _ _ (by have := (hl.2 x hx).1; omega) (by have := (ha.2 y hy).1; omega)]
      cases mF fold x.f0 y.f0 <;> rfl)]
    cases l.find? (fun x => mF fold x.f0 y.f0) with
    | none => rfl
    | some x => simp only [Bool.true_and, toList_os]
  exact ⟨fun h y hy => by rw [← this y hy]; exact h y hy, fun h y hy => by rw [this y hy]; exact h y hy⟩
def scanH (fold : Bool) (y : PT) : List PT → Bool → Bool → Bool
  | [], ok, _ => ok
  | x :: r, ok, found => if mF fold x.f0 y.f0 = true then (if found = true then scanH fold y r ok true else scanH fold y r (os x.f1 == os y.f1) true) else scanH fold y r ok found
theorem scanH_true (fold : Bool) (y : PT) : ∀ (l : List PT) (ok : Bool), scanH fold y l ok true = ok
  | [], _ => rfl
  | x :: r, ok => by rw [scanH, if_pos rfl, scanH_true fold y r ok, ite_self]
theorem scanH_one (fold : Bool) (y : PT) : ∀ (l : List PT), scanH fold y l false false = holdsOne fold l y
  | [] => rfl
  | x :: r => by
    unfold holdsOne
    rw [scanH, List.find?_cons]
    cases h : mF fold x.f0 y.f0 with
    | true => rw [if_pos rfl, if_neg (by decide), scanH_true]
    | false => rw [if_neg (by decide), scanH_one fold y r]; rfl
theorem eqN_os {a b : ByteArray} (h : os a = os b) : eqN a b = true := by unfold eqN nb; rw [h]; simp
theorem pairs_awake (k : Nat) (hk : 600 ≤ k) : tolllaw05_awake.f k = some true := by
  have small : ∀ l : List PT, l.all (fun x => decide ((os x.f0).length ≤ 100) && decide ((os x.f1).length ≤ 100)) = true → Small l.length l := fun l h => ⟨Nat.le_refl _, fun x hx => by
    have := List.all_eq_true.1 h x hx
    simpa using this⟩
  unfold tolllaw05_awake.f
  rw [get_p (by decide) (small _ (by decide)), Option.bind_some, set_p (by decide) _ (small _ (by decide)) (by decide), Option.bind_some, Option.bind_some, Option.bind_some, toList_os]
  rw [if_pos (by decide), if_pos (by decide)]
  rw [show setL ⟨#[97]⟩ ⟨#[51]⟩ [(⟨(⟨#[97]⟩ : ByteArray), (⟨#[49]⟩ : ByteArray)⟩ : PT), (⟨(⟨#[98]⟩ : ByteArray), (⟨#[50]⟩ : ByteArray)⟩ : PT), (⟨(⟨#[65]⟩ : ByteArray), (⟨#[52]⟩ : ByteArray)⟩ : PT)] false = [(⟨(⟨#[97]⟩ : ByteArray), (⟨#[51]⟩ : ByteArray)⟩ : PT), (⟨(⟨#[98]⟩ : ByteArray), (⟨#[50]⟩ : ByteArray)⟩ : PT)] from rfl]
  rw [same4 _ k (by decide) hk, Option.bind_some, if_pos rfl, holds_p true (small _ (by decide)) (small _ (by decide)), Option.bind_some, if_pos (by decide), holds_p false (small _ (by decide)) (small _ (by decide)), Option.bind_some, if_neg (by decide)]
end Go.Proofs.YtnldeohdojemlaaDoor.L
