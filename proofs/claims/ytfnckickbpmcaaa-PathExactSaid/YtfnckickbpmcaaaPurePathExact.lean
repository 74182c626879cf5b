/- The pure statement of PathExact: an Exact path holds for just one; no condition beyond the statement's. -/
import Derived.Test.YtfnckickbpmcaaaPx0
import Derived.Test.YtfnckickbpmcaaaPx5
import Derived.Test.YtfnckickbpmcaaaLPath
namespace Go.Proofs.Ytfnckickbpmcaaa.Pure
open Go Go.RowKit Go.Proofs.Ytfnckickbpmcaaa.P Go.Proofs.Ytfnckickbpmcaaa.L Go.Proofs.YtfnckickbpmcaaaW.PrintWords Go.Proofs.YtfnckickbpmcaaaW.PrintLast
theorem may1 (l : List UInt8) : mayP 1 l = isPath l := by unfold mayP; simp
theorem may2 (l : List UInt8) : mayP 2 l = above l := by unfold mayP; simp
theorem holds1 (p s : List UInt8) : holdsP 1 p s = (isPath p && (isPath s && (p == s))) := by
  unfold holdsP; rw [may1]; simp [Bool.and_assoc]
theorem holds1_self (p : List UInt8) : holdsP 1 p p = isPath p := by
  rw [holds1]; cases isPath p <;> simp
theorem holds1_eq (p s : List UInt8) : holdsP 1 p s = (isPath p && (p == s)) := by
  rw [holds1]
  by_cases h : p = s
  · subst h; cases isPath p <;> simp
  · rw [beq_eq_false_iff_ne.2 h]; simp
theorem above_is {l : List UInt8} (h : above l = true) : isPath l = true := above_path h
theorem PathExact : tolllaw03_PathExact.Pure := by
  intro s more _ _
  obtain ⟨s', hs, hsl⟩ := few_one s
  obtain ⟨m', hm, hml⟩ := few_one more
  have h1 := size_os s'
  have h2 := size_os m'
  refine ⟨1000, ?_⟩
  unfold tolllaw03_PathExact.f
  rw [hs, Option.bind_some, hm, Option.bind_some, path_may 1 s' (by omega), Option.bind_some, path_is, Option.bind_some, may1, if_neg (by simp)]
  rw [path_may 2 s' (by omega), Option.bind_some, may2, path_holds 1 s' s' 1000 (by omega) (by omega), holds1_self]
  simp only [Option.bind_some, path_holds 1 s' m' 1000 (by omega) (by omega), holds1_eq, toList_os, bne_self_eq_false, Bool.false_eq_true, if_false]
  -- what is left, behind the first four
  have hj : tolllaw03_PathExact.j0 1000 s' m' false 2 s' = some true := by
    simp only [tolllaw03_PathExact.j0]
    rw [if_neg (by decide), path_may 2 s' (by omega), Option.bind_some, may2]
    cases ha : above (os s')
    · rw [if_neg (by decide), path_awake 999 (by omega)]; rfl
    · have hp := above_path ha
      have hsz := size_os ((s' ++ (⟨#[47]⟩ : ByteArray)) ++ m')
      have e1 : os ((s' ++ (⟨#[47]⟩ : ByteArray)) ++ m') = os s' ++ [47] ++ os m' := by rw [os_append, os_append]
      have hs2 : (s' ++ (⟨#[47]⟩ : ByteArray)).size = s'.size + 1 := by rw [size_os, os_append, List.length_append, h1]; rfl
      rw [if_pos rfl, if_pos (by omega), if_pos (by omega), path_holds 2 s' s' 999 (by omega) (by omega), Option.bind_some]
      have hh : holdsP 2 (os s') (os s') = true := by unfold holdsP; rw [may2, ha, hp]; simp
      rw [hh, if_pos rfl, path_holds 2 s' _ 999 (by omega) (by omega), Option.bind_some, path_is, Option.bind_some, e1]
      have hg : holdsP 2 (os s') (os s' ++ [47] ++ os m') = isPath (os s' ++ [47] ++ os m') := by
        unfold holdsP
        rw [may2, ha, Bool.true_and]
        have : (os s' ++ [47]).isPrefixOf (os s' ++ [47] ++ os m') = true := List.isPrefixOf_iff_prefix.2 (List.prefix_append _ _)
        rw [this]
        cases isPath (os s' ++ [47] ++ os m') <;> simp
      rw [hg, if_pos (by simp), path_awake 999 (by omega)]
      rfl
  cases hp : isPath (os s')
  · have ha : above (os s') = false := by
      cases h : above (os s')
      · rfl
      · rw [above_path h] at hp; cases hp
    rw [ha]
    simpa using hj
  · cases ha : above (os s')
    · simpa using hj
    · simpa using hj
end Go.Proofs.Ytfnckickbpmcaaa.Pure
