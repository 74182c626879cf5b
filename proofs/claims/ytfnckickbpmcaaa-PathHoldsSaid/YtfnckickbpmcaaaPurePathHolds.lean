/- The pure statement of PathHolds: path.Is, May and Holds answer as the reference; no condition beyond the statement's. -/
import Derived.Test.YtfnckickbpmcaaaPx0
import Derived.Test.YtfnckickbpmcaaaPx4
import Derived.Test.YtfnckickbpmcaaaLPath
namespace Go.Proofs.Ytfnckickbpmcaaa.Pure
open Go Go.RowKit Go.Proofs.Ytfnckickbpmcaaa.P Go.Proofs.Ytfnckickbpmcaaa.L Go.Proofs.YtfnckickbpmcaaaW.PrintWords Go.Proofs.YtfnckickbpmcaaaW.PrintLast
theorem PathHolds : tolllaw03_PathHolds.Pure := by
  intro k p s _ _
  obtain ⟨p', hp, hpl⟩ := few_path k p
  obtain ⟨s', hs, hsl⟩ := few_one s
  have h1 := size_os p'
  have h2 := size_os s'
  refine ⟨1000, ?_⟩
  unfold tolllaw03_PathHolds.f
  rw [hp, Option.bind_some, hs, Option.bind_some, path_is, Option.bind_some, ref_is s' 1000 (by omega) (by omega), Option.bind_some, if_pos (by simp)]
  rw [path_may k p' (by omega), Option.bind_some, ref_may k p' 1000 (by omega) (by omega), Option.bind_some, if_pos (by simp)]
  rw [path_holds k p' s' 1000 (by omega) (by omega), Option.bind_some, ref_holds k p' s' 1000 (by omega) (by omega) (by omega), Option.bind_some, if_pos (by simp), path_awake 1000 (by omega)]
  rfl
end Go.Proofs.Ytfnckickbpmcaaa.Pure
