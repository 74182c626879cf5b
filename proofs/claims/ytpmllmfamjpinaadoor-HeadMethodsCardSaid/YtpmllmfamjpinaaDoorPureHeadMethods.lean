/- The pure statement of HeadMethods; no condition beyond the statement's. -/
import Derived.Test.YtpmllmfamjpinaaDoorKHeadMethods
import Derived.Test.YtpmllmfamjpinaaDoorPx0
import Derived.Test.YtpmllmfamjpinaaDoorPx10
import Derived.Test.YtpmllmfamjpinaaDoorPx16
import Derived.Test.YtpmllmfamjpinaaDoorPx17
import Derived.Test.YtpmllmfamjpinaaDoorPx7
namespace Go.Proofs.YtpmllmfamjpinaaDoor.Pure
open Go Go.RowKit Go.Proofs.YtpmllmfamjpinaaDoor.P Go.Proofs.YtpmllmfamjpinaaDoor.L Go.Proofs.YtpmllmfamjpinaaDoorW.PrintWords Go.Proofs.YtpmllmfamjpinaaDoorW.PrintLast
theorem HeadMethods : tolllaw18_HeadMethods.Pure := by
  intro a b c q l x y _ _ _
  refine ⟨8000 + 2, ?_⟩
  have hm := few_len a
  have hp := few_len c
  have hx := few_len x
  have hy := few_len y
  have hq := fewL_small q
  have hl := fewL_small l
  have hq1 := hq.1
  have hl1 := hl.1
  have zx := size_os (few x)
  have zy := size_os (few y)
  unfold tolllaw18_HeadMethods.f
  rw [asked18 _ _ _ _ _ _ (by omega), Option.bind_some, few_eq, Option.bind_some, few_eq, Option.bind_some]
  dsimp only
  generalize few a = a at *
  generalize few b = b at *
  generalize few c = c at *
  generalize few x = x at *
  generalize few y = y at *
  generalize fewL q = q at *
  generalize fewL l = l at *
  have second : ∀ n : Int, (n = 0 → GoodR a b c q l) → tolllaw18_HeadMethods.j0 (8000 + 2) x y n a b c q l = some true := by
    intro n hn
    rw [tolllaw18_HeadMethods.j0]
    have any := lay_any x b y q l (by omega) (by omega) (by omega) (hl.mono (by omega)) 8001 (by omega)
    have first : ∀ r, head_Lay.f 8001 x b y q l = some r → (∀ w : Bool, w = !(isMeth (os x) && isPath (os y)) → n = 0 → tolllaw18_HeadMethods.j1 8001 r.1 r.2 w x b y q l = some true) → ((head_Lay.f 8001 x b y q l).bind fun bt294 => (if n = 0 then ((tollref06_Method.f 8001 x).bind fun t297 => (if t297 = true then ((tollref03_Is.f 8001 y).bind fun t298 => (tolllaw18_HeadMethods.j1 8001 bt294.1 bt294.2 (!t298) x b y q l)) else (tolllaw18_HeadMethods.j1 8001 bt294.1 bt294.2 true x b y q l))) else ((tolllaw18_awake.f 8001).bind fun t296 => (some t296)))) = some true := by
      intro r e h
      rw [e, Option.bind_some]
      by_cases h0 : n = 0
      · rw [if_pos h0, meth_r x (by omega) 8001 (by omega), Option.bind_some]
        cases h1 : isMeth (os x) with
        | false => rw [if_neg (by decide)]; exact h true (by rw [h1]; rfl) h0
        | true =>
          rw [if_pos rfl, ref_is y 8001 (by omega) (by omega), Option.bind_some]
          exact h _ (by rw [h1]; rfl) h0
      · rw [if_neg h0, head_awake 8001 (by omega)]; rfl
    obtain ⟨r, er, hr⟩ : ∃ r, head_Lay.f 8001 x b y q l = some r ∧ (GoodR x b y q l ∧ r = layEnd (os x) (os y) q l ∨ ¬ GoodR x b y q l ∧ r = (⟨#[]⟩, 1)) := by
      rcases any with ⟨g, e⟩ | ⟨g, e⟩
      · exact ⟨_, e, .inl ⟨g, rfl⟩⟩
      · exact ⟨_, e, .inr ⟨g, rfl⟩⟩
    refine first r er ?_
    intro w hw h0
    rw [show (8001 : Nat) = 8000 + 1 from rfl, tolllaw18_HeadMethods.j1]
    have g0 := hn h0
    rcases hr with ⟨g, rfl⟩ | ⟨g, rfl⟩
    · rw [g.mm, g.pp] at hw
      subst hw
      rw [if_neg (by decide)]
      unfold layEnd
      by_cases hb : (headL (os x) (os y) q l).length > 1000
      · rw [if_pos hb]
        dsimp only
        rw [if_neg (by decide), if_pos rfl, head_awake 8000 (by omega)]; rfl
      · have z := size_mk (headL (os x) (os y) q l)
        rw [if_neg hb]
        dsimp only
        rw [if_pos rfl, g.parse ⟨(headL (os x) (os y) q l).toArray⟩ [] (by rw [os_mk, List.append_nil]) (by omega) (by omega) 8000 (by omega), Option.bind_some]
        dsimp only
        rw [same_ask _ _ _ _ _ (by omega) (by omega) 8000 (by omega), Option.bind_some, if_pos rfl, if_pos rfl, head_awake 8000 (by omega)]; rfl
    · have hw2 : w = true := by
        rw [hw]
        cases h1 : isMeth (os x) with
        | false => rfl
        | true =>
          cases h2 : isPath (os y) with
          | false => rfl
          | true => exact absurd ⟨g0.qq, h1, h2, g0.ll, g0.n30, g0.host⟩ g
      subst hw2
      rw [if_pos rfl]
      dsimp only
      rw [if_pos rfl, if_pos (show (⟨#[]⟩ : ByteArray).toList = ([] : List UInt8) from toList_os _), head_awake 8000 (by omega)]; rfl
  rcases lay_any a b c q l (by omega) (by omega) (by omega) (hl.mono (by omega)) (8000 + 2) (by omega) with ⟨g, e⟩ | ⟨g, e⟩
  · rw [e, Option.bind_some]; exact second _ (fun _ => g)
  · rw [e, Option.bind_some]; exact second _ (fun h => by cases h)
end Go.Proofs.YtpmllmfamjpinaaDoor.Pure
