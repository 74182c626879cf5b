/- The pure statement of PathBelow: of two Prefixes that hold for one path the longer one is below the shorter one; no condition beyond the statement's. -/
import Derived.Test.YtfnckickbpmcaaaPx0
import Derived.Test.YtfnckickbpmcaaaPx11
import Derived.Test.YtfnckickbpmcaaaPx4
import Derived.Test.YtfnckickbpmcaaaLOrd
namespace Go.Proofs.Ytfnckickbpmcaaa.Pure
open Go Go.RowKit Go.Proofs.Ytfnckickbpmcaaa.P Go.Proofs.Ytfnckickbpmcaaa.L Go.Proofs.YtfnckickbpmcaaaW.PrintWords Go.Proofs.YtfnckickbpmcaaaW.PrintLast
theorem holds2 {p s : List UInt8} (h : holdsP 2 p s = true) : above p = true ∧ isPath s = true ∧ (p = s ∨ p = [47] ∨ p ++ [47] <+: s) := by
  obtain ⟨h1, h2, h3⟩ := holdsP_cases h
  refine ⟨?_, h2, ?_⟩
  · unfold mayP at h1; simpa using h1
  · rcases h3 with h3 | ⟨_, h3 | h3⟩
    · exact .inl h3
    · exact .inr (.inl h3)
    · exact .inr (.inr h3)
theorem holds2_of {p s : List UInt8} (h1 : above p = true) (h2 : isPath s = true) (h3 : p = s ∨ p = [47] ∨ p ++ [47] <+: s) : holdsP 2 p s = true := by
  unfold holdsP mayP
  rw [h1, h2]
  simp only [Bool.or_eq_true, Bool.and_eq_true, beq_iff_eq, List.isPrefixOf_iff_prefix]
  refine ⟨⟨.inr ⟨trivial, trivial⟩, trivial⟩, ?_⟩
  rcases h3 with h3 | h3 | h3
  · exact .inl h3
  · exact .inr ⟨trivial, .inl h3⟩
  · exact .inr ⟨trivial, .inr h3⟩
/-- The longer one's path begins with the shorter one and /. -/
theorem below {p q s : List UInt8} (hp : holdsP 2 p s = true) (hq : holdsP 2 q s = true) (hl : q.length < p.length) : q = [47] ∨ q ++ [47] <+: p := by
  obtain ⟨_, _, h3⟩ := holds2 hq
  obtain ⟨p1, _, _⟩ := holds2 hp
  have pp := holdsP_prefix hp
  have hpl := pp.length_le
  rcases h3 with rfl | h3 | h3
  · omega
  · exact .inl h3
  · right
    exact List.prefix_of_prefix_length_le h3 pp (by rw [List.length_append, List.length_singleton]; omega)
theorem PathBelow : tolllaw03_PathBelow.Pure := by
  intro a b s t _
  obtain ⟨a', ha, hal⟩ := few_one a
  obtain ⟨b', hb, hbl⟩ := few_one b
  obtain ⟨s', hs, hsl⟩ := few_one s
  obtain ⟨t', ht, htl⟩ := few_one t
  have h1 := size_os a'
  have h2 := size_os b'
  refine ⟨1000, ?_⟩
  unfold tolllaw03_PathBelow.f
  rw [ha, Option.bind_some, hb, Option.bind_some, hs, Option.bind_some, ht, Option.bind_some, path_holds 2 a' s' 1000 (by omega) (by omega), Option.bind_some, path_holds 2 b' s' 1000 (by omega) (by omega), Option.bind_some]
  have aw : ∀ k, 3 ≤ k → ((tolllaw03_awake.f k).bind fun t => some t) = some true := fun k hk => by rw [path_awake k hk]; rfl
  simp only [tolllaw03_PathBelow.j0]
  cases c1 : holdsP 2 (os a') (os s')
  · rw [if_neg (by decide), if_pos trivial]; exact aw _ (by omega)
  rw [if_pos rfl]
  cases c2 : holdsP 2 (os b') (os s')
  · exact aw _ (by omega)
  rw [if_neg (by decide), toList_os, toList_os]
  -- the longer one, the shorter one
  have hj : ∀ p q : ByteArray, (os p).length ≤ 100 → (os q).length ≤ 100 → holdsP 2 (os p) (os s') = true → holdsP 2 (os q) (os s') = true → (os q).length < (os p).length → tolllaw03_PathBelow.j1 999 t' 2 p 2 q = some true := by
    intro p q hpl hql hp hq hl
    have e1 := size_os p
    have e2 := size_os q
    simp only [tolllaw03_PathBelow.j1]
    rw [path_order 2 2 p q 998 (by omega), Option.bind_some]
    have ho : ordP 2 (os p) 2 (os q) < 0 := by
      have z2 : cmpI 2 2 = 0 := by decide
      have zl : cmpI ((os q).length : Int) (os p).length = -1 := by unfold cmpI; rw [if_pos (by omega)]
      unfold ordP orI
      rw [z2, if_pos rfl, zl, if_neg (by decide)]
      decide
    rw [if_pos ho, path_holds 2 p t' 998 (by omega) (by omega), Option.bind_some, path_holds 2 q t' 998 (by omega) (by omega), path_holds 2 q p 998 (by omega) (by omega)]
    simp only [Option.bind_some]
    have hb := below hp hq hl
    obtain ⟨p1, p2, p3⟩ := holds2 hp
    obtain ⟨q1, q2, q3⟩ := holds2 hq
    have hqp : holdsP 2 (os q) (os p) = true := holds2_of q1 (above_path p1) (.inr hb)
    rw [hqp]
    cases c3 : holdsP 2 (os p) (os t')
    · simp only [if_true, Bool.false_eq_true, if_false]; exact aw _ (by omega)
    · have hqt : holdsP 2 (os q) (os t') = true := by
        obtain ⟨_, t2, t3⟩ := holds2 c3
        refine holds2_of q1 t2 ?_
        rcases hb with hb | hb
        · exact .inr (.inl hb)
        · exact .inr (.inr (hb.trans (holdsP_prefix c3)))
      rw [hqt]
      simp only [if_true]; exact aw _ (by omega)
  rw [h1, h2]
  by_cases h3 : ((os a').length : Int) = (os b').length
  · have : os a' = os b' := (List.prefix_of_prefix_length_le (holdsP_prefix c1) (holdsP_prefix c2) (by omega)).eq_of_length (by omega)
    rw [if_pos h3, if_pos this]; exact aw _ (by omega)
  · rw [if_neg h3]
    by_cases h4 : ((os a').length : Int) < (os b').length
    · rw [if_pos h4]; exact hj b' a' hbl hal c2 c1 (by omega)
    · rw [if_neg h4]; exact hj a' b' hal hbl c1 c2 (by omega)
end Go.Proofs.Ytfnckickbpmcaaa.Pure
