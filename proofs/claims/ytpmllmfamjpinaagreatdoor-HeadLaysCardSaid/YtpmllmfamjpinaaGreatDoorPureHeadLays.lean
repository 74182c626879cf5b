/- The pure statement of HeadLays; no condition beyond the statement's. -/
import Derived.Test.YtpmllmfamjpinaaGreatDoorKHeadLays
import Derived.Test.YtpmllmfamjpinaaGreatDoorPx0
import Derived.Test.YtpmllmfamjpinaaGreatDoorPx15
import Derived.Test.YtpmllmfamjpinaaGreatDoorPx2
namespace Go.Proofs.YtpmllmfamjpinaaGreatDoor.Pure
open Go Go.RowKit Go.Proofs.YtpmllmfamjpinaaGreatDoor.P Go.Proofs.YtpmllmfamjpinaaGreatDoor.L Go.Proofs.YtpmllmfamjpinaaGreatDoorW.PrintWords Go.Proofs.YtpmllmfamjpinaaGreatDoorW.PrintLast
theorem few18 (s : ByteArray) : ∃ t, tolllaw18_Few.f s = some t ∧ t.size ≤ 1100 := by
  unfold tolllaw18_Few.f
  by_cases h : (s.size : Int) > 1100
  · rw [if_pos h, if_pos (by decide), if_pos (by omega)]
    exact ⟨_, rfl, by rw [ByteArray.size_extract]; omega⟩
  · rw [if_neg h]; exact ⟨_, rfl, by omega⟩
theorem HeadLays : tolllaw18_HeadLays.Pure := by
  intro a b c q l x _ _
  refine ⟨8000 + 1, ?_⟩
  have hm := few_len a
  have hp := few_len c
  have hq := fewL_small q
  have hl := fewL_small l
  have hq1 := hq.1
  have hl1 := hl.1
  obtain ⟨y, ey, zy⟩ := few18 x
  unfold tolllaw18_HeadLays.f
  rw [asked18 _ _ _ _ _ _ (by omega), Option.bind_some, ey, Option.bind_some]
  dsimp only
  generalize few a = a at *
  generalize few b = b at *
  generalize few c = c at *
  generalize fewL q = q at *
  generalize fewL l = l at *
  have hr := lay_ref a b c q l hm hp (by omega) hl (8000 + 1) (by omega)
  rcases lay_any a b c q l (by omega) (by omega) (by omega) (hl.mono (by omega)) (8000 + 1) (by omega) with ⟨g, e⟩ | ⟨g, e⟩
  · rw [e, Option.bind_some, hr.1 g, Option.bind_some]
    unfold layEnd
    by_cases hb : (headL (os a) (os c) q l).length > 1000
    · rw [if_pos hb]
      dsimp only
      rw [if_pos rfl, show ((5 : Int) != 5) = false by decide, tolllaw18_HeadLays.j0, if_neg (by decide), if_neg (by decide), head_awake 8000 (by omega)]; rfl
    · have z := size_mk (headL (os a) (os c) q l)
      rw [if_neg hb]
      dsimp only
      rw [if_pos rfl, show ((0 : Int) != 0) = false by decide, tolllaw18_HeadLays.j0, if_neg (by decide), if_pos rfl, if_pos (by omega)]
      have zs : ((⟨(headL (os a) (os c) q l).toArray⟩ : ByteArray) ++ y).size ≤ 100000 := by
        have zz := size_os ((⟨(headL (os a) (os c) q l).toArray⟩ : ByteArray) ++ y)
        rw [os_append, List.length_append, ← size_os, ← size_os] at zz
        omega
      rw [g.parse ((⟨(headL (os a) (os c) q l).toArray⟩ : ByteArray) ++ y) (os y) (by rw [os_append]) (by omega) zs 8000 (by omega), Option.bind_some]
      dsimp only
      rw [same_ask _ _ _ _ _ (by omega) (by omega) 8000 (by omega), Option.bind_some, if_pos rfl, if_pos (by rw [z]), if_pos rfl, head_awake 8000 (by omega)]; rfl
  · rw [e, Option.bind_some, hr.2 g, Option.bind_some]
    dsimp only
    rw [if_pos rfl, show ((1 : Int) != 1) = false by decide, tolllaw18_HeadLays.j0, if_neg (by decide), if_neg (by decide), head_awake 8000 (by omega)]; rfl
end Go.Proofs.YtpmllmfamjpinaaGreatDoor.Pure
