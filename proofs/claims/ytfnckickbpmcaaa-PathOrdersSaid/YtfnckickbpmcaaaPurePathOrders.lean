/- The pure statement of PathOrders: Order is an order; no condition beyond the statement's. -/
import Derived.Test.YtfnckickbpmcaaaPx0
import Derived.Test.YtfnckickbpmcaaaPx10
import Derived.Test.YtfnckickbpmcaaaPx4
import Derived.Test.YtfnckickbpmcaaaPx9
import Derived.Test.YtfnckickbpmcaaaLOrd
namespace Go.Proofs.Ytfnckickbpmcaaa.Pure
open Go Go.RowKit Go.Proofs.Ytfnckickbpmcaaa.P Go.Proofs.Ytfnckickbpmcaaa.L Go.Proofs.YtfnckickbpmcaaaW.PrintWords Go.Proofs.YtfnckickbpmcaaaW.PrintLast
theorem PathOrders : tolllaw03_PathOrders.Pure := by
  intro k a j b i c _ _ _
  obtain ⟨a', ha, _⟩ := few_path k a
  obtain ⟨b', hb, _⟩ := few_path j b
  obtain ⟨c', hc, _⟩ := few_path i c
  refine ⟨1000, ?_⟩
  unfold tolllaw03_PathOrders_g1.f tolllaw03_PathOrders_g2.f
  rw [ha, Option.bind_some, hb, Option.bind_some, hc, Option.bind_some]
  simp only [path_order _ _ _ _ 1000 (show 5 ≤ 1000 by omega), Option.bind_some, toList_os]
  have o1 := ordP_one k j (os a') (os b')
  have o2 := ordP_one j i (os b') (os c')
  have o3 := ordP_one k i (os a') (os c')
  have ng := ordP_neg k j (os a') (os b')
  have zr := ordP_zero k j (os a') (os b')
  have tr := @ordP_trans k j i (os a') (os b') (os c')
  have hz : ((ordP k (os a') j (os b') == 0) == (k == j && (os a' == os b'))) = true := by
    rw [beq_iff_eq, Bool.eq_iff_iff, beq_iff_eq, Bool.and_eq_true, beq_iff_eq, beq_iff_eq]
    exact zr
  generalize ordP j (os b') k (os a') = w at *
  generalize ordP k (os a') j (os b') = x at *
  generalize ordP j (os b') i (os c') = y at *
  generalize ordP k (os a') i (os c') = z at *
  have aw : (tolllaw03_awake.f 1000).bind (fun t => some t) = some true := by rw [path_awake 1000 (by omega)]; rfl
  have hw : w = wrap64 (-x) := by rw [wrap64_id (by omega) (by omega)]; exact ng
  simp only [if_pos hw, hz, if_true]
  simp only [aw]
  rcases o1 with rfl | rfl | rfl <;> rcases o2 with rfl | rfl | rfl <;> rcases o3 with rfl | rfl | rfl <;> first | (exfalso; have := tr (by decide) (by decide); omega) | decide | simp
end Go.Proofs.Ytfnckickbpmcaaa.Pure
