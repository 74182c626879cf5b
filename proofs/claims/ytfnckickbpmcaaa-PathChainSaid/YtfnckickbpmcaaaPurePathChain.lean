/- The pure statement of PathChain: swapped twice a path is as swapped at once; no condition beyond the statement's. -/
import Derived.Test.YtfnckickbpmcaaaPx0
import Derived.Test.YtfnckickbpmcaaaPx4
import Derived.Test.YtfnckickbpmcaaaPx6
import Derived.Test.YtfnckickbpmcaaaLPath
import Derived.Test.YtfnckickbpmcaaaPurePathBacks
namespace Go.Proofs.Ytfnckickbpmcaaa.Pure
open Go Go.RowKit Go.Proofs.Ytfnckickbpmcaaa.P Go.Proofs.Ytfnckickbpmcaaa.L Go.Proofs.YtfnckickbpmcaaaW.PrintWords Go.Proofs.YtfnckickbpmcaaaW.PrintLast
/-- An error's number, of a swap by what is not / alone. -/
theorem swap_num (k : Int) (p w s : List UInt8) : (swapP k p w s).2 = 0 ∨ (swapP k p w s).2 = 5 ∨ (swapP k p w s).2 = 1 := by
  unfold swapP
  split
  · split
    · split <;> exact .inl rfl
    · split
      · exact .inr (.inl rfl)
      · exact .inl rfl
  · exact .inr (.inr rfl)
theorem swap_form {p w s : List UInt8} (h1 : p ≠ [47]) (h2 : w ≠ [47]) (h3 : holdsP 2 p s = true) (h4 : above w = true) :
    swapP 2 p w s = if w.length + (s.drop p.length).length > 60 then ([], 5) else (w ++ s.drop p.length, 0) := by
  unfold swapP
  rw [if_pos ⟨rfl, h3, h4⟩, if_neg h2]
  have ht : tailP p s = s.drop p.length := by unfold tailP; rw [if_neg h1]
  rw [ht]
/-- The second swap, of what was swapped, fares as the one swap does. -/
theorem swap_chain {a b c s : List UInt8} (h : (swapP 2 a b s).2 = 0) (ha : a ≠ [47]) (hb : b ≠ [47]) (hc : c ≠ [47]) : swapP 2 b c (swapP 2 a b s).1 = swapP 2 a c s := by
  obtain ⟨_, hh, hw, hi, hbb⟩ := swap_is h
  by_cases hcc : above c = true
  · have e := swap_form ha hb hh hw
    have e2 : swapP 2 a b s = (b ++ s.drop a.length, 0) := by
      rw [e] at h ⊢
      by_cases h6 : b.length + (s.drop a.length).length > 60
      · rw [if_pos h6] at h; exact absurd h (by decide)
      · rw [if_neg h6]
    rw [e2] at hbb ⊢
    simp only at hbb ⊢
    rw [swap_form hb hc hbb hcc, swap_form ha hc hh hcc, List.drop_left]
  · have : ∀ p s, swapP 2 p c s = ([], 1) := by
      intro p s
      unfold swapP
      rw [if_neg (fun h => hcc h.2.2)]
    rw [this, this]
theorem PathChain : tolllaw03_PathChain.Pure := by
  intro a b c s _
  obtain ⟨a', ha, hal⟩ := few_one a
  obtain ⟨b', hb, hbl⟩ := few_one b
  obtain ⟨c', hc, hcl⟩ := few_one c
  obtain ⟨s', hs, hsl⟩ := few_one s
  have h1 := size_os a'
  have h2 := size_os b'
  have h3 := size_os c'
  have h4 := size_os s'
  refine ⟨1000, ?_⟩
  unfold tolllaw03_PathChain.f
  rw [ha, Option.bind_some, hb, Option.bind_some, hc, Option.bind_some, hs, Option.bind_some]
  have aw : ∀ k, 3 ≤ k → ((tolllaw03_awake.f k).bind fun t => some t) = some true := fun k hk => by rw [path_awake k hk]; rfl
  have hj : ∀ x, (x = false → os a' ≠ [47] ∧ os b' ≠ [47] ∧ os c' ≠ [47]) → tolllaw03_PathChain.j0 1000 a' b' c' s' x = some true := by
    intro x hx
    simp only [tolllaw03_PathChain.j0]
    cases x
    · obtain ⟨na, nb, nc⟩ := hx rfl
      rw [if_neg (by decide)]
      obtain ⟨t, e, ht, he⟩ := path_swap 2 a' b' s' 999 (by omega) (by omega) (by omega) (by omega)
      have hbt : (os t).length ≤ 60 := by
        by_cases h0 : (swapP 2 (os a') (os b') (os s')).2 = 0
        · have := isPath_len (swap_is h0).2.2.2.1
          rw [← he] at this
          exact this.2
        · have := swapP_err h0
          rw [← he] at this
          simp only at this
          rw [this]; simp
      have h5 := size_os t
      obtain ⟨u, f, hu, hf⟩ := path_swap 2 b' c' t 999 (by omega) (by omega) (by omega) (by omega)
      obtain ⟨v, g, hv, hg⟩ := path_swap 2 a' c' s' 999 (by omega) (by omega) (by omega) (by omega)
      rw [ht, Option.bind_some, hu, Option.bind_some, hv, Option.bind_some]
      simp only [tolllaw03_PathChain.j1]
      by_cases h0 : e = 0
      · have hz : (swapP 2 (os a') (os b') (os s')).2 = 0 := by rw [← he]; exact h0
        have hch := swap_chain hz na nb nc
        rw [← he] at hch
        simp only at hch
        rw [hch, ← hg, Prod.mk.injEq] at hf
        obtain ⟨hf1, hf2⟩ := hf
        subst hf2
        rw [if_pos h0]
        by_cases h6 : f = 0
        · subst h6
          simp only [bne_self_eq_false, Bool.false_eq_true, if_false, toList_os]
          rw [if_pos hf1]
          simp only [if_true]
          exact aw _ (by omega)
        · have hn := swap_num 2 (os a') (os c') (os s')
          rw [← hg] at hn
          simp only at hn
          have hb : (f != 0) = true := by simpa using h6
          rw [if_pos hb, if_pos h0]
          rcases hn with hn | hn | hn
          · exact absurd hn h6
          · rw [if_pos hn, if_pos hn]; exact aw _ (by omega)
          · rw [if_neg (by omega), if_pos hn, if_pos hn]; exact aw _ (by omega)
      · rw [if_neg h0, if_pos trivial, if_neg h0]
        exact aw _ (by omega)
    · rw [if_pos rfl]; exact aw _ (by omega)
  simp only [toList_os]
  by_cases e1 : os a' = [47]
  · rw [if_pos e1]; exact hj true (fun h => by cases h)
  rw [if_neg e1]
  by_cases e2 : os b' = [47]
  · rw [if_pos e2]; exact hj true (fun h => by cases h)
  rw [if_neg e2]
  exact hj _ (fun h => ⟨e1, e2, by simpa using h⟩)
end Go.Proofs.Ytfnckickbpmcaaa.Pure
