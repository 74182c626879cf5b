/- The pure statement of HeadFields; no condition beyond the statement's. -/
import Derived.Test.YtpmllmfamjpinaaDoorKHeadFields
import Derived.Test.YtpmllmfamjpinaaDoorPx0
import Derived.Test.YtpmllmfamjpinaaDoorPx15
namespace Go.Proofs.YtpmllmfamjpinaaDoor.Pure
open Go Go.RowKit Go.Proofs.YtpmllmfamjpinaaDoor.P Go.Proofs.YtpmllmfamjpinaaDoor.L Go.Proofs.YtpmllmfamjpinaaDoorW.PrintWords Go.Proofs.YtpmllmfamjpinaaDoorW.PrintLast
theorem HeadFields : tolllaw18_HeadFields.Pure := by
  intro a b c q l x y _ _ _
  refine ⟨8000 + 3, ?_⟩
  have hm := few_len a
  have hp := few_len c
  have hx := few_len x
  have hy := few_len y
  have hq := fewL_small q
  have hl := fewL_small l
  have hq1 := hq.1
  have hl1 := hl.1
  have zx := size_os (few x)
  have zy := size_os (few y)
  have ex := few_eq x
  have ey := few_eq y
  unfold tolllaw18_HeadFields.f
  rw [asked18 _ _ _ _ _ _ (by omega), Option.bind_some]
  dsimp only
  generalize few a = a at *
  generalize few b = b at *
  generalize few c = c at *
  generalize few x = x' at *
  generalize few y = y' at *
  generalize fewL q = q at *
  generalize fewL l = l at *
  have asleep : ∀ t, tolllaw18_HeadFields.j0 (8000 + 3) x y t true a b c q l = some true := fun t => by
    rw [tolllaw18_HeadFields.j0, if_pos rfl, head_awake _ (by omega)]; rfl
  rcases lay_any a b c q l (by omega) (by omega) (by omega) (hl.mono (by omega)) (8000 + 3) (by omega) with ⟨g, e⟩ | ⟨g, e⟩
  · rw [e, Option.bind_some]
    unfold layEnd
    by_cases hb : (headL (os a) (os c) q l).length > 1000
    · rw [if_pos hb]
      dsimp only
      rw [if_neg (by decide)]; exact asleep _
    · rw [if_neg hb]
      dsimp only
      have zt := size_mk (headL (os a) (os c) q l)
      have hlen : (headL (os a) (os c) q l).length = (bodyL (os a) (os c) q l).length + 4 := by unfold headL; rw [List.length_append]; rfl
      rw [if_pos rfl, decide_eq_false (by omega), tolllaw18_HeadFields.j0, if_neg (by decide), ex, Option.bind_some, ey, Option.bind_some]
      have w : wrap64 (((⟨(headL (os a) (os c) q l).toArray⟩ : ByteArray).size : Int) - 2) = (((bodyL (os a) (os c) q l).length + 2 : Nat) : Int) := by
        rw [wrap64_id (by omega) (by omega)]; omega
      rw [w, Int.toNat_natCast]
      obtain ⟨s0, hs0⟩ : ∃ s0, s0 = (⟨(headL (os a) (os c) q l).toArray⟩ : ByteArray).extract 0 ((bodyL (os a) (os c) q l).length + 2) := ⟨_, rfl⟩
      have o0 : os s0 = bodyL (os a) (os c) q l ++ [13, 10] := by
        rw [hs0, os_extract]
        show ((headL (os a) (os c) q l).drop 0).take _ = _
        unfold headL
        rw [List.drop_zero, Nat.sub_zero, show bodyL (os a) (os c) q l ++ [13, 10, 13, 10] = (bodyL (os a) (os c) q l ++ [13, 10]) ++ [13, 10] by simp]
        exact List.take_left' (by simp)
      have z0 := size_os s0
      rw [o0, List.length_append, show ([13, 10] : List UInt8).length = 2 from rfl] at z0
      rw [← hs0]
      obtain ⟨s1, hs1⟩ : ∃ s1, s1 = (((s0 ++ x') ++ (⟨#[58]⟩ : ByteArray)) ++ y') ++ (⟨#[13, 10, 13, 10]⟩ : ByteArray) := ⟨_, rfl⟩
      have p1 : (s0 ++ x').size = s0.size + x'.size := by rw [size_os, os_append, List.length_append, ← size_os, ← size_os]
      have p2 : ((s0 ++ x') ++ (⟨#[58]⟩ : ByteArray)).size = s0.size + x'.size + 1 := by rw [size_os, os_append, List.length_append, ← size_os, p1]; rfl
      have p3 : (((s0 ++ x') ++ (⟨#[58]⟩ : ByteArray)) ++ y').size = s0.size + x'.size + 1 + y'.size := by rw [size_os, os_append, List.length_append, ← size_os, p2, ← size_os]
      have p4 : s1.size = s0.size + x'.size + 1 + y'.size + 4 := by rw [hs1, size_os, os_append, List.length_append, ← size_os, p3]; rfl
      have o1 : os s1 = Lib.join (linesL (os a) (os c) q l ++ [os x' ++ 58 :: os y']) [13, 10] ++ 13 :: 10 :: 13 :: 10 :: [] := by
        unfold linesL
        rw [hs1, os_append, os_append, os_append, os_append, o0, List.cons_append, join_snoc]
        unfold bodyL linesL
        simp only [List.append_assoc]
        rfl
      rw [if_pos (by omega), if_pos (by omega), if_pos (by omega), if_pos (by rw [p1]; omega), if_pos (by rw [p2]; omega), if_pos (by rw [p3]; omega), ← hs1]
      rw [tolllaw18_HeadFields.j1]
      obtain ⟨r, hr⟩ := parse_t s1 (by omega) (8000 + 1) (by omega)
      rw [hr, Option.bind_some, Option.bind_some, List.nil_append, if_pos (by simp; omega), Option.bind_some, if_pos (by omega), Option.bind_some]
      have asleep2 : ∀ t i j u, tolllaw18_HeadFields.j2 (8000 + 1) t i j true r.1 r.2.1 r.2.2.1 r.2.2.2.1 r.2.2.2.2.1 a b c q u = some true := fun t i j u => by
        rw [tolllaw18_HeadFields.j2, if_pos rfl, head_awake _ (by omega)]; rfl
      rw [tok_r x' (by omega) (8000 + 1) (by omega), Option.bind_some]
      cases ht : isTok (os x') with
      | false => rw [if_neg (by decide)]; exact asleep2 _ _ _ _
      | true =>
        rw [if_pos rfl, val_r y' (by omega) (8000 + 1) (by omega), Option.bind_some]
        cases hv : isVal (os y') with
        | false => rw [if_neg (by decide)]; exact asleep2 _ _ _ _
        | true =>
          rw [if_pos rfl]
          by_cases c1 : ((l ++ [(⟨x', y'⟩ : PT)]).length : Int) > 30
          · rw [if_pos c1]; exact asleep2 _ _ _ _
          · rw [if_neg c1]
            by_cases c2 : (s1.size : Int) > 1000
            · rw [if_pos c2]; exact asleep2 _ _ _ _
            · rw [if_neg c2, same_r x' ⟨#[104, 111, 115, 116]⟩ (8000 + 1) (by omega) hx (by decide), Option.bind_some]
              cases hn : eqN x' ⟨#[104, 111, 115, 116]⟩ with
              | true => exact asleep2 _ _ _ _
              | false =>
                have ha := asked_more (x := ⟨x', y'⟩) hl ⟨hx, hy⟩ hn g.host
                have hj : (Lib.join (linesL (os a) (os c) q l ++ [os x' ++ 58 :: os y']) [13, 10]).length + 4 = s1.size := by rw [size_os, o1, List.length_append]; rfl
                have hcons : linesL (os a) (os c) q l ++ [os x' ++ 58 :: os y'] = lineL (os a) (os c) q :: (l.map rowL ++ [os x' ++ 58 :: os y']) := rfl
                rw [hcons] at o1 hj
                have hp2 := parse_gen a b c q (l ++ [⟨x', y'⟩]) (l.map rowL ++ [os x' ++ 58 :: os y']) g.mm g.pp g.qq (by omega) ha 8000 (by omega) (fun ps hps => by
                  obtain ⟨u, v, e1, e2, e3⟩ := List.map_eq_append_iff.1 hps
                  obtain ⟨z, v', e4, e5, e6⟩ := List.map_eq_cons_iff.1 e3
                  obtain rfl : v' = [] := by simpa using e6
                  rw [e1, e4]
                  refine reads_app 8000 l u ⟨x', y'⟩ z (reads_row 8000 (by omega) l u g.ll e2) ?_
                  have hf : ∀ w : ByteArray, (⟨(os w).toArray⟩ : ByteArray) = w := fun w => os_inj rfl
                  have := field_v z x' (os y') ht (by omega) e5 8000 (by omega)
                  rw [isVal_trim hv, hf, hv] at this
                  exact this) (fun w hw => by
                  rw [← hcons] at hw
                  rcases List.mem_append.1 hw with hw | hw
                  · exact g.lines w hw
                  · rw [List.mem_singleton.1 hw]
                    refine ⟨fun hm => ?_, by simp⟩
                    rcases List.mem_append.1 hm with hm | hm
                    · exact (tok_mem ht hm).2 rfl
                    · rcases List.mem_cons.1 hm with hm | hm
                      · revert hm; decide
                      · have := val_mem hv hm; revert this; decide) s1 [] o1 (by omega) (by omega)
                rw [show (8000 + 1 : Nat) = 8000 + 1 from rfl, hr] at hp2
                rw [Option.some.inj hp2, tolllaw18_HeadFields.j2, if_neg (by decide)]
                dsimp only
                rw [same_ask _ _ _ _ _ (by omega) (by omega) 8000 (by omega), Option.bind_some, if_pos rfl, if_pos (by omega), if_pos rfl, head_awake _ (by omega)]; rfl
  · rw [e, Option.bind_some]
    dsimp only
    rw [if_neg (by decide)]; exact asleep _
end Go.Proofs.YtpmllmfamjpinaaDoor.Pure
