/- The pure statement of PathBacks: what is swapped is swapped back; no condition beyond the statement's. -/
import Derived.Test.YtfnckickbpmcaaaPx0
import Derived.Test.YtfnckickbpmcaaaPx4
import Derived.Test.YtfnckickbpmcaaaLPath
namespace Go.Proofs.Ytfnckickbpmcaaa.Pure
open Go Go.RowKit Go.Proofs.Ytfnckickbpmcaaa.P Go.Proofs.Ytfnckickbpmcaaa.L Go.Proofs.YtfnckickbpmcaaaW.PrintWords Go.Proofs.YtfnckickbpmcaaaW.PrintLast

theorem pok_append (a b : List UInt8) : (a ++ b).all pok = (a.all pok && b.all pok) := List.all_append
theorem all_pok {l : List UInt8} (h : isPath l = true) : l.all pok = true := by
  unfold isPath at h
  simp only [Bool.and_eq_true] at h
  exact h.1
theorem isPath_of {l : List UInt8} (h1 : l.all pok = true) (h2 : l.head? = some 47) (h3 : l.length ≤ 60) : isPath l = true := by
  unfold isPath
  rw [h1, h2, decide_eq_true h3]
  rfl
theorem tail_pok {p s : List UInt8} (h : isPath s = true) : (tailP p s).all pok = true := by
  have := all_pok h
  unfold tailP
  split
  · split
    · rfl
    · exact this
  · rw [List.all_eq_true] at this ⊢
    exact fun x hx => this x (List.mem_of_mem_drop hx)
/-- What is swapped is a path, and begins with what it was swapped for. -/
theorem swap_is {k : Int} {p w s : List UInt8} (h : (swapP k p w s).2 = 0) : k = 2 ∧ holdsP 2 p s = true ∧ above w = true ∧ isPath (swapP k p w s).1 = true ∧ holdsP 2 w (swapP k p w s).1 = true := by
  unfold swapP at h
  split at h
  · rename_i hc
    obtain ⟨rfl, h2, h3⟩ := hc
    have e : swapP 2 p w s = (if w = [47] then (if tailP p s = [] then ([47], 0) else (tailP p s, 0)) else if w.length + (tailP p s).length > 60 then ([], 5) else (w ++ tailP p s, 0)) := by
      unfold swapP
      rw [if_pos ⟨rfl, h2, h3⟩]
    obtain ⟨hm, hip, hcs⟩ := holdsP_cases h2
    obtain ⟨hpp, hk⟩ := mayP_kind hm
    have hab : above p = true := by
      rcases hk with hk | hk
      · exact absurd hk (by decide)
      · exact hk.2
    have hmw : mayP 2 w = true := by unfold mayP; rw [h3]; rfl
    have htp := tail_pok (p := p) hip
    -- the tail is nothing, or begins with /
    have htl : tailP p s = [] ∨ (tailP p s).head? = some 47 := by
      unfold tailP
      split
      · split
        · exact .inl rfl
        · obtain ⟨r, rfl⟩ := isPath_head hip
          exact .inr rfl
      · rename_i hne
        rcases hcs with rfl | ⟨_, h | h⟩
        · left; simp
        · exact absurd h hne
        · obtain ⟨r, rfl⟩ := h
          right
          simp
    have hlen : (tailP p s).length ≤ 60 := by
      have := isPath_len hip
      unfold tailP
      split
      · split <;> simp <;> omega
      · rw [List.length_drop]; omega
    refine ⟨rfl, h2, h3, ?_⟩
    rw [e]
    by_cases h4 : w = [47]
    · rw [if_pos h4]
      have hw : ∀ l, isPath l = true → holdsP 2 w l = true := by
        intro l hl
        unfold holdsP
        rw [hmw, hl, h4]
        simp
      by_cases h5 : tailP p s = []
      · rw [if_pos h5]; exact ⟨by decide, hw _ (by decide)⟩
      · rw [if_neg h5]
        have : isPath (tailP p s) = true := isPath_of htp (htl.resolve_left h5) hlen
        exact ⟨this, hw _ this⟩
    · rw [if_neg h4] at h ⊢
      by_cases h6 : w.length + (tailP p s).length > 60
      · rw [if_pos h6] at h; exact absurd h (by decide)
      · rw [if_neg h6]
        have hwp := above_path h3
        have hi : isPath (w ++ tailP p s) = true := by
          refine isPath_of (by rw [pok_append, all_pok hwp, htp]; rfl) ?_ (by rw [List.length_append]; omega)
          obtain ⟨r, rfl⟩ := isPath_head hwp
          rfl
        refine ⟨hi, ?_⟩
        unfold holdsP
        rw [hmw, hi]
        simp only [Bool.true_and, Bool.or_eq_true, Bool.and_eq_true, beq_iff_eq, List.isPrefixOf_iff_prefix]
        rcases htl with h | h
        · left; rw [h, List.append_nil]
        · right
          refine ⟨trivial, .inr ?_⟩
          cases ht : tailP p s with
          | nil => rw [ht] at h; cases h
          | cons c r =>
            rw [ht] at h
            have : c = 47 := by simpa using h
            subst this
            exact ⟨r, by simp⟩
  · exact absurd h (by decide)
/-- What is swapped is swapped back. -/
theorem swap_back {p w s : List UInt8} (h : (swapP 2 p w s).2 = 0) (h1 : p ≠ [47]) (h2 : w ≠ [47]) : swapP 2 w p (swapP 2 p w s).1 = (s, 0) := by
  obtain ⟨_, hh, hw, hi, hb⟩ := swap_is h
  obtain ⟨hm, hip, _⟩ := holdsP_cases hh
  obtain ⟨hpp, hk⟩ := mayP_kind hm
  have hab : above p = true := by
    rcases hk with hk | hk
    · exact absurd hk (by decide)
    · exact hk.2
  have e : swapP 2 p w s = (w ++ s.drop p.length, 0) := by
    unfold swapP at h ⊢
    rw [if_pos ⟨rfl, hh, hw⟩, if_neg h2] at h ⊢
    have ht : tailP p s = s.drop p.length := by unfold tailP; rw [if_neg h1]
    rw [ht] at h ⊢
    by_cases h6 : w.length + (s.drop p.length).length > 60
    · rw [if_pos h6] at h; exact absurd h (by decide)
    · rw [if_neg h6]
  rw [e] at hb hi ⊢
  simp only at hb hi ⊢
  unfold swapP
  rw [if_pos ⟨rfl, hb, hab⟩, if_neg h1]
  have ht : tailP w (w ++ s.drop p.length) = s.drop p.length := by unfold tailP; rw [if_neg h2, List.drop_left]
  have hpre := List.prefix_iff_eq_append.1 (holdsP_prefix hh)
  have hl := isPath_len hip
  rw [ht, hpre]
  have : p.length + (s.drop p.length).length = s.length := by
    have := congrArg List.length hpre
    rwa [List.length_append] at this
  rw [if_neg (by omega)]
theorem PathBacks : tolllaw03_PathBacks.Pure := by
  intro a b s _ _ _
  obtain ⟨a', ha, hal⟩ := few_one a
  obtain ⟨b', hb, hbl⟩ := few_one b
  obtain ⟨s', hs, hsl⟩ := few_one s
  have h1 := size_os a'
  have h2 := size_os b'
  have h3 := size_os s'
  refine ⟨1000, ?_⟩
  unfold tolllaw03_PathBacks.f
  obtain ⟨t, e, ht, he⟩ := path_swap 2 a' b' s' 1000 (by omega) (by omega) (by omega) (by omega)
  have het := (Prod.mk.injEq _ _ _ _).mp he
  rw [ha, Option.bind_some, hb, Option.bind_some, hs, Option.bind_some, ht, Option.bind_some]
  simp only []
  by_cases h0 : e = 0
  · have hz : (swapP 2 (os a') (os b') (os s')).2 = 0 := by rw [← he]; exact h0
    obtain ⟨_, hh, hw, hi, hbb⟩ := swap_is hz
    rw [← he] at hi hbb
    have hbt := isPath_len hi
    have h4 := size_os t
    rw [if_pos h0, path_is, Option.bind_some, hi, if_pos rfl, path_holds 2 b' t 1000 (by omega) (by omega), hbb, Option.bind_some]
    simp only [tolllaw03_PathBacks.j0]
    obtain ⟨u, f, hu, hf⟩ := path_swap 2 b' a' t 999 (by omega) (by omega) (by omega) (by simp only at hbt; omega)
    rw [if_neg (by decide), hu, Option.bind_some, toList_os, toList_os, toList_os, toList_os]
    by_cases h5 : os a' = [47]
    · rw [if_pos h5, path_awake 999 (by omega)]; rfl
    rw [if_neg h5]
    by_cases h6 : os b' = [47]
    · rw [if_pos h6, path_awake 999 (by omega)]; rfl
    rw [if_neg h6]
    have hback := swap_back hz h5 h6
    rw [← he] at hback
    simp only at hback
    rw [hback, Prod.mk.injEq] at hf
    rw [if_pos hf.1, if_pos hf.2, path_awake 999 (by omega)]; rfl
  · have hz : (swapP 2 (os a') (os b') (os s')).2 ≠ 0 := by rw [← he]; exact h0
    have := swapP_err hz
    rw [← he] at this
    rw [if_neg h0, toList_os, if_pos this, path_awake 1000 (by omega)]; rfl
end Go.Proofs.Ytfnckickbpmcaaa.Pure
