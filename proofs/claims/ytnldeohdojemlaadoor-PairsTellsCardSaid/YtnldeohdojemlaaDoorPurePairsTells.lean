/- The pure statement of PairsTells; no condition beyond the statement's. -/
import Derived.Test.YtnldeohdojemlaaDoorPx0
import Derived.Test.YtnldeohdojemlaaDoorPx8
import Derived.Test.YtnldeohdojemlaaDoorLTokens
namespace Go.Proofs.YtnldeohdojemlaaDoor.Pure
open Go Go.RowKit Go.Proofs.YtnldeohdojemlaaDoor.P Go.Proofs.YtnldeohdojemlaaDoor.L Go.Proofs.YtnldeohdojemlaaDoorW.PrintWords Go.Proofs.YtnldeohdojemlaaDoorW.PrintLast
theorem tells_get (n : ByteArray) (l : List PT) : getL l n = match allL n l with | [] => ((⟨#[]⟩ : ByteArray), false) | v :: _ => (v, true) := by
  unfold getL allL
  induction l with
  | nil => rfl
  | cons x r ih =>
    rw [List.find?_cons, List.filter_cons]
    cases h : eqN x.f0 n with
    | true => rfl
    | false => rw [if_neg (by decide)]; exact ih
theorem PairsTells : tolllaw05_PairsTells.Pure := by
  intro l0 s0 t0 _ _ _
  refine ⟨5000, ?_⟩
  have hl := fewL_small l0
  have hs := few_len s0
  have ht := few_len t0
  have h1 := hl.1
  unfold tolllaw05_PairsTells.f
  rw [fewL_eq _ _ (by decide), Option.bind_some, few_eq, Option.bind_some, few_eq, Option.bind_some]
  generalize fewL l0 = l at *
  generalize few s0 = s at *
  generalize few t0 = t at *
  have hall : (allL s l).length ≤ 31 := by unfold allL; rw [List.length_map]; exact Nat.le_trans (List.length_filter_le _ _) h1
  have hfin : tolllaw05_PairsTells.j0 5000 l s t (allL s l) false = some true := by
    rw [show (5000 : Nat) = 4999 + 1 from rfl, tolllaw05_PairsTells.j0, if_neg (by decide), tok_p s (by omega) _ (by decide), Option.bind_some, tok_r s (by omega) _ (by decide), Option.bind_some, if_pos (by simp), val_p s (by omega) _ (by decide), Option.bind_some, val_r s (by omega) _ (by decide), Option.bind_some, if_pos (by simp), same_p s t (by omega) (by omega), Option.bind_some, same_r s t _ (by decide) hs ht, Option.bind_some, if_pos (by simp), all_p hs (hl.mono (by decide)) _ (by decide), Option.bind_some, same1 _ _ (by omega) (by decide), Option.bind_some, if_pos rfl, pairs_awake _ (by decide)]
    rfl
  rw [all_r hs (hl.mono (by decide)) _ (by decide), Option.bind_some, get_p hs hl, Option.bind_some, tells_get]
  cases ha : allL s l with
  | nil =>
    rw [ha] at hfin
    show (if (false != decide ((([] : List ByteArray).length : Int) > 0)) = true then _ else if false = true then _ else tolllaw05_PairsTells.j0 5000 l s t [] ((⟨#[]⟩ : ByteArray).toList != ([] : List UInt8))) = some true
    rw [if_neg (by decide), if_neg (by decide), toList_os]
    exact hfin
  | cons v r =>
    rw [ha] at hfin
    have e : ((v :: r).length : Int) > 0 := by rw [List.length_cons]; omega
    show (if (true != decide (((v :: r).length : Int) > 0)) = true then _ else if true = true then (if 0 < ((v :: r).length : Int) then (if v.toList = v.toList then tolllaw05_PairsTells.j0 5000 l s t (v :: r) false else _) else none) else _) = some true
    rw [decide_eq_true e, if_neg (by decide), if_pos rfl, if_pos e, if_pos rfl]
    exact hfin
end Go.Proofs.YtnldeohdojemlaaDoor.Pure
