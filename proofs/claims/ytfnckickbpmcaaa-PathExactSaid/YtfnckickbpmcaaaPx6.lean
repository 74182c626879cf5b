-- written by wip/tool/hprint.py of this repo: the kit's print, with contracts by hand joined; Lean checks it.
import Derived.Test.YtfnckickbpmcaaaPx0
import Derived.Test.YtfnckickbpmcaaaPx2
import Derived.Test.YtfnckickbpmcaaaPx3
import Derived.Test.YtfnckickbpmcaaaPx4
namespace Go.Proofs.Ytfnckickbpmcaaa.P
open Go.RowKit Go.Proofs.YtfnckickbpmcaaaW.PrintWords Go.Proofs.YtfnckickbpmcaaaW.PrintLast Go.Proofs.YtfnckickbpmcaaaW.PrintMore
attribute [local go_sem] max2_int min2_int max_two min_two max_three min_three max_four min_four   -- for this text's walks alone
set_option linter.unusedVariables false
set_option linter.unusedSimpArgs false

/-! ### tolllaw03_PathChain: function 6 -/
mutual
def tolllaw03_PathChain.j0 : Nat → ByteArray → ByteArray → ByteArray → ByteArray → Bool → Option (Bool)
  | 0, _, _, _, _, _ => none
  | k + 1, x3, x4, x5, x6, x34 => if x34 = true then ((tolllaw03_awake.f k).bind fun t191 => (some t191)) else ((path_Swap.f k 2 x3 x4 x6).bind fun bt192 => ((path_Swap.f k 2 x4 x5 bt192.1).bind fun bt194 => ((path_Swap.f k 2 x3 x5 x6).bind fun bt196 => (if bt192.2 = 0 then (tolllaw03_PathChain.j1 k bt192.2 bt194.1 bt194.2 bt196.1 bt196.2 (bt194.2 != 0)) else (tolllaw03_PathChain.j1 k bt192.2 bt194.1 bt194.2 bt196.1 bt196.2 true)))))
def tolllaw03_PathChain.j1 : Nat → Int → ByteArray → Int → ByteArray → Int → Bool → Option (Bool)
  | 0, _, _, _, _, _, _ => none
  | k + 1, x8, x9, x10, x11, x12, x65 => if x65 = true then (if x8 = 0 then (if x10 = 5 then (if x12 = 5 then ((tolllaw03_awake.f k).bind fun t198 => (some t198)) else (if x10 = 1 then (if x12 = 1 then ((tolllaw03_awake.f k).bind fun t199 => (some t199)) else (none)) else (none))) else (if x10 = 1 then (if x12 = 1 then ((tolllaw03_awake.f k).bind fun t200 => (some t200)) else (none)) else (none))) else ((tolllaw03_awake.f k).bind fun t201 => (some t201))) else (if x9.toList = x11.toList then (if x12 = 0 then ((tolllaw03_awake.f k).bind fun t202 => (some t202)) else (none)) else (none))
end
def tolllaw03_PathChain.f (k : Nat) (a0_0 : ByteArray) (a0_1 : ByteArray) (a0_2 : ByteArray) (a0_3 : ByteArray) : Option (Bool) := (tolllaw01_Few.f a0_0).bind fun t187 => ((tolllaw01_Few.f a0_1).bind fun t188 => ((tolllaw01_Few.f a0_2).bind fun t189 => ((tolllaw01_Few.f a0_3).bind fun t190 => (if t187.toList = ([47] : List UInt8) then (tolllaw03_PathChain.j0 k t187 t188 t189 t190 true) else (if t188.toList = ([47] : List UInt8) then (tolllaw03_PathChain.j0 k t187 t188 t189 t190 true) else (tolllaw03_PathChain.j0 k t187 t188 t189 t190 (t189.toList == ([47] : List UInt8))))))))
theorem tolllaw03_PathChain.mono_l : ∀ k, (∀ y0 y1 y2 y3 y4, LeO (tolllaw03_PathChain.j0 k y0 y1 y2 y3 y4) (tolllaw03_PathChain.j0 (k + 1) y0 y1 y2 y3 y4)) ∧ (∀ y0 y1 y2 y3 y4 y5, LeO (tolllaw03_PathChain.j1 k y0 y1 y2 y3 y4 y5) (tolllaw03_PathChain.j1 (k + 1) y0 y1 y2 y3 y4 y5))
  | 0 => ⟨fun _ _ _ _ _ r h => by simp [tolllaw03_PathChain.j0] at h, fun _ _ _ _ _ _ r h => by simp [tolllaw03_PathChain.j1] at h⟩
  | k + 1 => by
    obtain ⟨ih0, ih1⟩ := tolllaw03_PathChain.mono_l k
    refine ⟨?_, ?_⟩
    · intro y0 y1 y2 y3 y4
      unfold tolllaw03_PathChain.j0
      repeat' first
      | (with_reducible exact ih0 _ _ _ _ _)
      | (with_reducible exact ih1 _ _ _ _ _ _)
      | (with_reducible exact path_Swap.mono _ _ _ _ _)
      | (with_reducible exact tolllaw03_awake.mono _)
      | (with_reducible exact LeO.refl _)
      | (with_reducible exact LeO.none _)
      | (with_reducible refine LeO.ite ?_ ?_)
      | (with_reducible refine LeO.bind ?_ (fun _ => ?_))
      | exact ih0 _ _ _ _ _
      | exact ih1 _ _ _ _ _ _
      | exact path_Swap.mono _ _ _ _ _
      | exact tolllaw03_awake.mono _
      | exact LeO.none _
      | refine LeO.ite ?_ ?_
      | refine LeO.bind ?_ (fun _ => ?_)
    · intro y0 y1 y2 y3 y4 y5
      unfold tolllaw03_PathChain.j1
      repeat' first
      | (with_reducible exact ih0 _ _ _ _ _)
      | (with_reducible exact ih1 _ _ _ _ _ _)
      | (with_reducible exact path_Swap.mono _ _ _ _ _)
      | (with_reducible exact tolllaw03_awake.mono _)
      | (with_reducible exact LeO.refl _)
      | (with_reducible exact LeO.none _)
      | (with_reducible refine LeO.ite ?_ ?_)
      | (with_reducible refine LeO.bind ?_ (fun _ => ?_))
      | exact ih0 _ _ _ _ _
      | exact ih1 _ _ _ _ _ _
      | exact path_Swap.mono _ _ _ _ _
      | exact tolllaw03_awake.mono _
      | exact LeO.none _
      | refine LeO.ite ?_ ?_
      | refine LeO.bind ?_ (fun _ => ?_)
theorem tolllaw03_PathChain.mono : ∀ a0 a1 a2 a3 k, LeO (tolllaw03_PathChain.f k a0 a1 a2 a3) (tolllaw03_PathChain.f (k + 1) a0 a1 a2 a3) := by
  intro a0 a1 a2 a3 k
  obtain ⟨ih0, ih1⟩ := tolllaw03_PathChain.mono_l k
  unfold tolllaw03_PathChain.f
  repeat' first
      | (with_reducible exact ih0 _ _ _ _ _)
      | (with_reducible exact ih1 _ _ _ _ _ _)
      | (with_reducible exact path_Swap.mono _ _ _ _ _)
      | (with_reducible exact tolllaw03_awake.mono _)
      | (with_reducible exact LeO.refl _)
      | (with_reducible exact LeO.none _)
      | (with_reducible refine LeO.ite ?_ ?_)
      | (with_reducible refine LeO.bind ?_ (fun _ => ?_))
      | exact ih0 _ _ _ _ _
      | exact ih1 _ _ _ _ _ _
      | exact path_Swap.mono _ _ _ _ _
      | exact tolllaw03_awake.mono _
      | exact LeO.none _
      | refine LeO.ite ?_ ?_
      | refine LeO.bind ?_ (fun _ => ?_)
set_option maxHeartbeats 8000000 in
set_option maxRecDepth 100000 in
theorem tolllaw03_PathChain.calls (k : Nat) (a0_0 : ByteArray) (a0_1 : ByteArray) (a0_2 : ByteArray) (a0_3 : ByteArray) (r : Bool) (w : World) (h : tolllaw03_PathChain.f k a0_0 a0_1 a0_2 a0_3 = some r) :
    Calls Try.prog 6 #[.agg #[.string a0_0, .string a0_1, .string a0_2, .string a0_3]] w fun e w' => e = .returned (.bool r) ∧ Below w.heap.size w w' := by
  have hu36 := Try.underlying36
  have hu23 := Try.underlying23
  have HB := Aside0.mk (Below.refl w.heap.size w)
  have H : ((tolllaw01_Few.f a0_0).bind fun t187 => ((tolllaw01_Few.f a0_1).bind fun t188 => ((tolllaw01_Few.f a0_2).bind fun t189 => ((tolllaw01_Few.f a0_3).bind fun t190 => (if t187.toList = ([47] : List UInt8) then (tolllaw03_PathChain.j0 k t187 t188 t189 t190 true) else (if t188.toList = ([47] : List UInt8) then (tolllaw03_PathChain.j0 k t187 t188 t189 t190 true) else (tolllaw03_PathChain.j0 k t187 t188 t189 t190 (t189.toList == ([47] : List UInt8))))))))) = some r := h
  clear h
  replace H := Option.bind_eq_some_iff.mp H
  obtain ⟨t187, A20, H⟩ := H
  replace H : ((tolllaw01_Few.f a0_1).bind fun t188 => ((tolllaw01_Few.f a0_2).bind fun t189 => ((tolllaw01_Few.f a0_3).bind fun t190 => (if t187.toList = ([47] : List UInt8) then (tolllaw03_PathChain.j0 k t187 t188 t189 t190 true) else (if t188.toList = ([47] : List UInt8) then (tolllaw03_PathChain.j0 k t187 t188 t189 t190 true) else (tolllaw03_PathChain.j0 k t187 t188 t189 t190 (t189.toList == ([47] : List UInt8)))))))) = some r := H
  have A2 := Aside0.mk A20
  clear A20
  replace H := Option.bind_eq_some_iff.mp H
  obtain ⟨t188, A30, H⟩ := H
  replace H : ((tolllaw01_Few.f a0_2).bind fun t189 => ((tolllaw01_Few.f a0_3).bind fun t190 => (if t187.toList = ([47] : List UInt8) then (tolllaw03_PathChain.j0 k t187 t188 t189 t190 true) else (if t188.toList = ([47] : List UInt8) then (tolllaw03_PathChain.j0 k t187 t188 t189 t190 true) else (tolllaw03_PathChain.j0 k t187 t188 t189 t190 (t189.toList == ([47] : List UInt8))))))) = some r := H
  have A3 := Aside0.mk A30
  clear A30
  replace H := Option.bind_eq_some_iff.mp H
  obtain ⟨t189, A40, H⟩ := H
  replace H : ((tolllaw01_Few.f a0_3).bind fun t190 => (if t187.toList = ([47] : List UInt8) then (tolllaw03_PathChain.j0 k t187 t188 t189 t190 true) else (if t188.toList = ([47] : List UInt8) then (tolllaw03_PathChain.j0 k t187 t188 t189 t190 true) else (tolllaw03_PathChain.j0 k t187 t188 t189 t190 (t189.toList == ([47] : List UInt8)))))) = some r := H
  have A4 := Aside0.mk A40
  clear A40
  replace H := Option.bind_eq_some_iff.mp H
  obtain ⟨t190, A50, H⟩ := H
  replace H : (if t187.toList = ([47] : List UInt8) then (tolllaw03_PathChain.j0 k t187 t188 t189 t190 true) else (if t188.toList = ([47] : List UInt8) then (tolllaw03_PathChain.j0 k t187 t188 t189 t190 true) else (tolllaw03_PathChain.j0 k t187 t188 t189 t190 (t189.toList == ([47] : List UInt8))))) = some r := H
  have A5 := Aside0.mk A50
  clear A50
  have HC6 := Aside0.mk H
  clear H
  go_enter Try.func6, Try.ntmps6
  go_upto_region 2 with (first | ((with_reducible refine gate_dst (N := 1) rfl ?_); refine box_event ?hg (N := 1) ?hd (cs := #[.string a0_0, .string a0_1, .string a0_2, .string a0_3]) (t := 36) ?hr ?_; (case hd => rfl); (case hg => rfl); (case hr => first | (go_simp; done) | (go_simp; rfl)); intro gb186 hg w7 hbox hb; have n0_ := Aside0.mk (below_step (by repeat (first | (with_reducible first | exact HB.out | apply below_alloc | apply pw_below_drewN | apply below_drew1) | exact HB.out)) hb); have n1_ := Aside0.mk (hbox); have n2_ := Aside0.mk ((by rw [hg]; exact (below_size (by repeat (first | (with_reducible first | exact HB.out | apply below_alloc | apply pw_below_drewN | apply below_drew1) | exact HB.out))) : w.heap.size ≤ gb186)); have n3_ := Aside0.mk ((by rw [hg]; exact (below_size (by repeat (first | (with_reducible first | exact HB.out | apply below_alloc | apply pw_below_drewN | apply below_drew1) | exact HB.out))) : w.heap.size ≤ gb186)); clear HB; have HB := n0_; have BK186 := n1_; have GW186 := n2_; have GE186 := n3_; clear n0_ n1_ n2_ n3_; clear hb hbox hg; have hcz8_0 : w7.cell? ⟨gb186, 0, none⟩ = some (.string a0_0) := (blk_cell BK186.out 0).trans rfl; have hcz8_1 : w7.cell? ⟨gb186, 1, none⟩ = some (.string a0_1) := (blk_cell BK186.out 1).trans rfl; have hcz8_2 : w7.cell? ⟨gb186, 2, none⟩ = some (.string a0_2) := (blk_cell BK186.out 2).trans rfl; have hcz8_3 : w7.cell? ⟨gb186, 3, none⟩ = some (.string a0_3) := (blk_cell BK186.out 3).trans rfl; have hfz8_0 := blk_frozen BK186.out 0; have hfz8_1 := blk_frozen BK186.out 1; have hfz8_2 := blk_frozen BK186.out 2; have hfz8_3 := blk_frozen BK186.out 3) | (go_at_call 11; (with_reducible refine (tolllaw01_Few.calls a0_0 t187 _ A2.out).mono ?_); rintro e w' ⟨rfl, ⟨nd, rfl⟩⟩; (try first | exact ⟨rfl, _, World.drewN_drewN _ _ _⟩ | exact ⟨rfl, _, Eq.trans (World.drewN_drewN _ _ _) (congrArg (World.drewN _) (Nat.add_assoc _ _ _))⟩)) | (go_at_call 11; (with_reducible refine (tolllaw01_Few.calls a0_1 t188 _ A3.out).mono ?_); rintro e w' ⟨rfl, ⟨nd, rfl⟩⟩; (try first | exact ⟨rfl, _, World.drewN_drewN _ _ _⟩ | exact ⟨rfl, _, Eq.trans (World.drewN_drewN _ _ _) (congrArg (World.drewN _) (Nat.add_assoc _ _ _))⟩)) | (go_at_call 11; (with_reducible refine (tolllaw01_Few.calls a0_2 t189 _ A4.out).mono ?_); rintro e w' ⟨rfl, ⟨nd, rfl⟩⟩; (try first | exact ⟨rfl, _, World.drewN_drewN _ _ _⟩ | exact ⟨rfl, _, Eq.trans (World.drewN_drewN _ _ _) (congrArg (World.drewN _) (Nat.add_assoc _ _ _))⟩)) | (go_at_call 11; (with_reducible refine (tolllaw01_Few.calls a0_3 t190 _ A5.out).mono ?_); rintro e w' ⟨rfl, ⟨nd, rfl⟩⟩; (try first | exact ⟨rfl, _, World.drewN_drewN _ _ _⟩ | exact ⟨rfl, _, Eq.trans (World.drewN_drewN _ _ _) (congrArg (World.drewN _) (Nat.add_assoc _ _ _))⟩)))
  repeat (go_quiet (first | ((with_reducible refine gate_dst (N := 1) rfl ?_); refine box_event ?hg (N := 1) ?hd (cs := #[.string a0_0, .string a0_1, .string a0_2, .string a0_3]) (t := 36) ?hr ?_; (case hd => rfl); (case hg => rfl); (case hr => first | (go_simp; done) | (go_simp; rfl)); intro gb186 hg w7 hbox hb; have n0_ := Aside0.mk (below_step (by repeat (first | (with_reducible first | exact HB.out | apply below_alloc | apply pw_below_drewN | apply below_drew1) | exact HB.out)) hb); have n1_ := Aside0.mk (hbox); have n2_ := Aside0.mk ((by rw [hg]; exact (below_size (by repeat (first | (with_reducible first | exact HB.out | apply below_alloc | apply pw_below_drewN | apply below_drew1) | exact HB.out))) : w.heap.size ≤ gb186)); have n3_ := Aside0.mk ((by rw [hg]; exact (below_size (by repeat (first | (with_reducible first | exact HB.out | apply below_alloc | apply pw_below_drewN | apply below_drew1) | exact HB.out))) : w.heap.size ≤ gb186)); clear HB; have HB := n0_; have BK186 := n1_; have GW186 := n2_; have GE186 := n3_; clear n0_ n1_ n2_ n3_; clear hb hbox hg; have hcz8_0 : w7.cell? ⟨gb186, 0, none⟩ = some (.string a0_0) := (blk_cell BK186.out 0).trans rfl; have hcz8_1 : w7.cell? ⟨gb186, 1, none⟩ = some (.string a0_1) := (blk_cell BK186.out 1).trans rfl; have hcz8_2 : w7.cell? ⟨gb186, 2, none⟩ = some (.string a0_2) := (blk_cell BK186.out 2).trans rfl; have hcz8_3 : w7.cell? ⟨gb186, 3, none⟩ = some (.string a0_3) := (blk_cell BK186.out 3).trans rfl; have hfz8_0 := blk_frozen BK186.out 0; have hfz8_1 := blk_frozen BK186.out 1; have hfz8_2 := blk_frozen BK186.out 2; have hfz8_3 := blk_frozen BK186.out 3) | (go_at_call 11; (with_reducible refine (tolllaw01_Few.calls a0_0 t187 _ A2.out).mono ?_); rintro e w' ⟨rfl, ⟨nd, rfl⟩⟩; (try first | exact ⟨rfl, _, World.drewN_drewN _ _ _⟩ | exact ⟨rfl, _, Eq.trans (World.drewN_drewN _ _ _) (congrArg (World.drewN _) (Nat.add_assoc _ _ _))⟩)) | (go_at_call 11; (with_reducible refine (tolllaw01_Few.calls a0_1 t188 _ A3.out).mono ?_); rintro e w' ⟨rfl, ⟨nd, rfl⟩⟩; (try first | exact ⟨rfl, _, World.drewN_drewN _ _ _⟩ | exact ⟨rfl, _, Eq.trans (World.drewN_drewN _ _ _) (congrArg (World.drewN _) (Nat.add_assoc _ _ _))⟩)) | (go_at_call 11; (with_reducible refine (tolllaw01_Few.calls a0_2 t189 _ A4.out).mono ?_); rintro e w' ⟨rfl, ⟨nd, rfl⟩⟩; (try first | exact ⟨rfl, _, World.drewN_drewN _ _ _⟩ | exact ⟨rfl, _, Eq.trans (World.drewN_drewN _ _ _) (congrArg (World.drewN _) (Nat.add_assoc _ _ _))⟩)) | (go_at_call 11; (with_reducible refine (tolllaw01_Few.calls a0_3 t190 _ A5.out).mono ?_); rintro e w' ⟨rfl, ⟨nd, rfl⟩⟩; (try first | exact ⟨rfl, _, World.drewN_drewN _ _ _⟩ | exact ⟨rfl, _, Eq.trans (World.drewN_drewN _ _ _) (congrArg (World.drewN _) (Nat.add_assoc _ _ _))⟩))); go_upto_region 2 with (first | ((with_reducible refine gate_dst (N := 1) rfl ?_); refine box_event ?hg (N := 1) ?hd (cs := #[.string a0_0, .string a0_1, .string a0_2, .string a0_3]) (t := 36) ?hr ?_; (case hd => rfl); (case hg => rfl); (case hr => first | (go_simp; done) | (go_simp; rfl)); intro gb186 hg w7 hbox hb; have n0_ := Aside0.mk (below_step (by repeat (first | (with_reducible first | exact HB.out | apply below_alloc | apply pw_below_drewN | apply below_drew1) | exact HB.out)) hb); have n1_ := Aside0.mk (hbox); have n2_ := Aside0.mk ((by rw [hg]; exact (below_size (by repeat (first | (with_reducible first | exact HB.out | apply below_alloc | apply pw_below_drewN | apply below_drew1) | exact HB.out))) : w.heap.size ≤ gb186)); have n3_ := Aside0.mk ((by rw [hg]; exact (below_size (by repeat (first | (with_reducible first | exact HB.out | apply below_alloc | apply pw_below_drewN | apply below_drew1) | exact HB.out))) : w.heap.size ≤ gb186)); clear HB; have HB := n0_; have BK186 := n1_; have GW186 := n2_; have GE186 := n3_; clear n0_ n1_ n2_ n3_; clear hb hbox hg; have hcz8_0 : w7.cell? ⟨gb186, 0, none⟩ = some (.string a0_0) := (blk_cell BK186.out 0).trans rfl; have hcz8_1 : w7.cell? ⟨gb186, 1, none⟩ = some (.string a0_1) := (blk_cell BK186.out 1).trans rfl; have hcz8_2 : w7.cell? ⟨gb186, 2, none⟩ = some (.string a0_2) := (blk_cell BK186.out 2).trans rfl; have hcz8_3 : w7.cell? ⟨gb186, 3, none⟩ = some (.string a0_3) := (blk_cell BK186.out 3).trans rfl; have hfz8_0 := blk_frozen BK186.out 0; have hfz8_1 := blk_frozen BK186.out 1; have hfz8_2 := blk_frozen BK186.out 2; have hfz8_3 := blk_frozen BK186.out 3) | (go_at_call 11; (with_reducible refine (tolllaw01_Few.calls a0_0 t187 _ A2.out).mono ?_); rintro e w' ⟨rfl, ⟨nd, rfl⟩⟩; (try first | exact ⟨rfl, _, World.drewN_drewN _ _ _⟩ | exact ⟨rfl, _, Eq.trans (World.drewN_drewN _ _ _) (congrArg (World.drewN _) (Nat.add_assoc _ _ _))⟩)) | (go_at_call 11; (with_reducible refine (tolllaw01_Few.calls a0_1 t188 _ A3.out).mono ?_); rintro e w' ⟨rfl, ⟨nd, rfl⟩⟩; (try first | exact ⟨rfl, _, World.drewN_drewN _ _ _⟩ | exact ⟨rfl, _, Eq.trans (World.drewN_drewN _ _ _) (congrArg (World.drewN _) (Nat.add_assoc _ _ _))⟩)) | (go_at_call 11; (with_reducible refine (tolllaw01_Few.calls a0_2 t189 _ A4.out).mono ?_); rintro e w' ⟨rfl, ⟨nd, rfl⟩⟩; (try first | exact ⟨rfl, _, World.drewN_drewN _ _ _⟩ | exact ⟨rfl, _, Eq.trans (World.drewN_drewN _ _ _) (congrArg (World.drewN _) (Nat.add_assoc _ _ _))⟩)) | (go_at_call 11; (with_reducible refine (tolllaw01_Few.calls a0_3 t190 _ A5.out).mono ?_); rintro e w' ⟨rfl, ⟨nd, rfl⟩⟩; (try first | exact ⟨rfl, _, World.drewN_drewN _ _ _⟩ | exact ⟨rfl, _, Eq.trans (World.drewN_drewN _ _ _) (congrArg (World.drewN _) (Nat.add_assoc _ _ _))⟩))))
  (try simp only [Act.put, List.setIfInBounds_toArray, List.set_cons_zero, List.set_cons_succ])
  go_cut [34] (fun v34 wc => ∃ (kq : Nat) (x34_5 : Bool), v34 = .bool x34_5 ∧ Aside0 (tolllaw03_PathChain.j0 kq t187 t188 t189 t190 x34_5 = some r) ∧ Aside0 (kq ≤ k) ∧ Aside0 (wc.heap[gb186]? = some (.cells #[.string a0_0, .string a0_1, .string a0_2, .string a0_3] 36 (0, 0))) ∧ Aside0 (Below w.heap.size w wc))
  case first =>
    have H := HC6.out
    clear HC6
    by_cases c9 : t187.toList = ([47] : List UInt8)
    · rw [if_pos c9] at H
      have c9b0 : (t187.toList == ([47] : List UInt8)) = true := beq_iff_eq.mpr c9
      have c9b1 : (t187.toList != ([47] : List UInt8)) = false := bne_eq_false_iff_eq.mpr c9
      clear c9
      (first | rw [c9b0] | rw [c9b1] | rw [c9b2] | (simp only [i64_w, i32_w]; rw [c9b0]) | skip)
      have H' := Aside0.mk H
      clear H
      go_wp2
      repeat (go_quiet (fail); try go_wp2)
      go_meet
      case rel => exact ⟨_, (true), (by first | rfl | (simp; done) | (simp [*]; done)), H', ⟨by first | omega | exact Nat.le_refl _⟩, ⟨by (with_reducible repeat (first | refine blk_drewN ?_ _ | refine blk_drew ?_ | refine blk_alloc ?_ _)); exact BK186.out⟩, ⟨by repeat (first | (with_reducible first | exact HB.out | apply below_alloc | apply pw_below_drewN | apply below_drew1 | refine below_set ?_ GE186.out) | exact HB.out)⟩⟩
    · rw [if_neg c9] at H
      have c9b0 : (t187.toList == ([47] : List UInt8)) = false := beq_eq_false_iff_ne.mpr c9
      have c9b1 : (t187.toList != ([47] : List UInt8)) = true := bne_iff_ne.mpr c9
      (first | rw [c9b0] | rw [c9b1] | rw [c9b2] | (simp only [i64_w, i32_w]; rw [c9b0]) | skip)
      by_cases c10 : t188.toList = ([47] : List UInt8)
      · rw [if_pos c10] at H
        have c10b0 : (t188.toList == ([47] : List UInt8)) = true := beq_iff_eq.mpr c10
        have c10b1 : (t188.toList != ([47] : List UInt8)) = false := bne_eq_false_iff_eq.mpr c10
        clear c10
        have H' := Aside0.mk H
        clear H
        go_wp2
        repeat (go_quiet (fail); try go_wp2)
        go_meet
        case rel => exact ⟨_, (true), (by first | rfl | (simp; done) | (simp [*]; done)), H', ⟨by first | omega | exact Nat.le_refl _⟩, ⟨by (with_reducible repeat (first | refine blk_drewN ?_ _ | refine blk_drew ?_ | refine blk_alloc ?_ _)); exact BK186.out⟩, ⟨by repeat (first | (with_reducible first | exact HB.out | apply below_alloc | apply pw_below_drewN | apply below_drew1 | refine below_set ?_ GE186.out) | exact HB.out)⟩⟩
      · rw [if_neg c10] at H
        have c10b0 : (t188.toList == ([47] : List UInt8)) = false := beq_eq_false_iff_ne.mpr c10
        have c10b1 : (t188.toList != ([47] : List UInt8)) = true := bne_iff_ne.mpr c10
        have H' := Aside0.mk H
        clear H
        go_wp2
        repeat (go_quiet (fail); try go_wp2)
        go_meet
        case rel => exact ⟨_, ((t189.toList == ([47] : List UInt8))), (by first | rfl | (simp; done) | (simp [*]; done)), H', ⟨by first | omega | exact Nat.le_refl _⟩, ⟨by (with_reducible repeat (first | refine blk_drewN ?_ _ | refine blk_drew ?_ | refine blk_alloc ?_ _)); exact BK186.out⟩, ⟨by repeat (first | (with_reducible first | exact HB.out | apply below_alloc | apply pw_below_drewN | apply below_drew1 | refine below_set ?_ GE186.out) | exact HB.out)⟩⟩
  case rest =>
    clear HC6
    try clear c1
    try clear p2
    try clear c6
    try clear c9
    try clear c9b0
    try clear c9b1
    try clear c9b2
    try clear c10
    try clear c10b0
    try clear c10b1
    try clear hcz8_0
    try clear hcz8_1
    try clear hcz8_2
    try clear hcz8_3
    try clear hfz8_0
    try clear hfz8_1
    try clear hfz8_2
    try clear hfz8_3
    obtain ⟨kq, x34_5, rfl, HA, HJ5, BK186, HB⟩ := hcut
    cases kq with
    | zero => exact absurd HA.out (by simp [tolllaw03_PathChain.j0])
    | succ kj5 =>
      have H := HA.out
      clear HA
      simp only [tolllaw03_PathChain.j0] at H
      by_cases c11 : x34_5 = true
      · subst c11
        have H1 : ((tolllaw03_awake.f kj5).bind fun t191 => (some t191)) = some r := by rw [if_pos rfl] at H; exact H
        clear H
        have H := H1
        clear H1
        replace H := Option.bind_eq_some_iff.mp H
        obtain ⟨t191, A120, H⟩ := H
        replace H : (some t191) = some r := H
        have A12 := Aside0.mk A120
        clear A120
        obtain rfl := Option.some.inj H
        go_wp2_with (first | (go_at_call 18; (with_reducible refine (tolllaw03_awake.calls kj5  t191 _ A12.out).mono ?_); rintro e w13 ⟨rfl, hb⟩; have n0_ := Aside0.mk (blk_below (g := gb186) (o := .cells #[.string a0_0, .string a0_1, .string a0_2, .string a0_3] 36 (0, 0)) (by (with_reducible repeat (first | refine blk_drewN ?_ _ | refine blk_drew ?_ | refine blk_alloc ?_ _)); exact BK186.out) hb); have n1_ := Aside0.mk (below_step (by repeat (first | (with_reducible first | exact HB.out | apply below_alloc | apply pw_below_drewN | apply below_drew1 | refine below_set ?_ GE186.out) | exact HB.out)) hb); clear BK186; clear HB; have BK186 := n0_; have HB := n1_; clear n0_ n1_; (try clear hb); (try clear hb2); (try clear hk); (try clear hi)))
        repeat (go_quiet (first | (go_at_call 18; (with_reducible refine (tolllaw03_awake.calls kj5  t191 _ A12.out).mono ?_); rintro e w13 ⟨rfl, hb⟩; have n0_ := Aside0.mk (blk_below (g := gb186) (o := .cells #[.string a0_0, .string a0_1, .string a0_2, .string a0_3] 36 (0, 0)) (by (with_reducible repeat (first | refine blk_drewN ?_ _ | refine blk_drew ?_ | refine blk_alloc ?_ _)); exact BK186.out) hb); have n1_ := Aside0.mk (below_step (by repeat (first | (with_reducible first | exact HB.out | apply below_alloc | apply pw_below_drewN | apply below_drew1 | refine below_set ?_ GE186.out) | exact HB.out)) hb); clear BK186; clear HB; have BK186 := n0_; have HB := n1_; clear n0_ n1_; (try clear hb); (try clear hb2); (try clear hk); (try clear hi))); try go_wp2_with (first | (go_at_call 18; (with_reducible refine (tolllaw03_awake.calls kj5  t191 _ A12.out).mono ?_); rintro e w13 ⟨rfl, hb⟩; have n0_ := Aside0.mk (blk_below (g := gb186) (o := .cells #[.string a0_0, .string a0_1, .string a0_2, .string a0_3] 36 (0, 0)) (by (with_reducible repeat (first | refine blk_drewN ?_ _ | refine blk_drew ?_ | refine blk_alloc ?_ _)); exact BK186.out) hb); have n1_ := Aside0.mk (below_step (by repeat (first | (with_reducible first | exact HB.out | apply below_alloc | apply pw_below_drewN | apply below_drew1 | refine below_set ?_ GE186.out) | exact HB.out)) hb); clear BK186; clear HB; have BK186 := n0_; have HB := n1_; clear n0_ n1_; (try clear hb); (try clear hb2); (try clear hk); (try clear hi))))
        go_ret
        exact ⟨by first | rfl | (simp [errW_none, errW_some] <;> rfl) | (simp [*, errW_none, errW_some] <;> rfl), by repeat (first | (with_reducible first | exact HB.out | apply below_alloc | apply pw_below_drewN | apply below_drew1 | refine below_set ?_ GE186.out) | exact HB.out)⟩
      · replace c11 := Bool.eq_false_iff.mpr c11
        subst c11
        have H1 : ((path_Swap.f kj5 2 t187 t188 t190).bind fun bt192 => ((path_Swap.f kj5 2 t188 t189 bt192.1).bind fun bt194 => ((path_Swap.f kj5 2 t187 t189 t190).bind fun bt196 => (if bt192.2 = 0 then (tolllaw03_PathChain.j1 kj5 bt192.2 bt194.1 bt194.2 bt196.1 bt196.2 (bt194.2 != 0)) else (tolllaw03_PathChain.j1 kj5 bt192.2 bt194.1 bt194.2 bt196.1 bt196.2 true))))) = some r := by rw [if_neg (show ¬ (false = true) by decide)] at H; exact H
        clear H
        have H := H1
        clear H1
        replace H := Option.bind_eq_some_iff.mp H
        obtain ⟨⟨t192, t193⟩, A140, H⟩ := H
        replace H : ((path_Swap.f kj5 2 t188 t189 t192).bind fun bt194 => ((path_Swap.f kj5 2 t187 t189 t190).bind fun bt196 => (if t193 = 0 then (tolllaw03_PathChain.j1 kj5 t193 bt194.1 bt194.2 bt196.1 bt196.2 (bt194.2 != 0)) else (tolllaw03_PathChain.j1 kj5 t193 bt194.1 bt194.2 bt196.1 bt196.2 true)))) = some r := H
        have A14 := Aside0.mk A140
        clear A140
        replace H := Option.bind_eq_some_iff.mp H
        obtain ⟨⟨t194, t195⟩, A150, H⟩ := H
        replace H : ((path_Swap.f kj5 2 t187 t189 t190).bind fun bt196 => (if t193 = 0 then (tolllaw03_PathChain.j1 kj5 t193 t194 t195 bt196.1 bt196.2 (t195 != 0)) else (tolllaw03_PathChain.j1 kj5 t193 t194 t195 bt196.1 bt196.2 true))) = some r := H
        have A15 := Aside0.mk A150
        clear A150
        replace H := Option.bind_eq_some_iff.mp H
        obtain ⟨⟨t196, t197⟩, A160, H⟩ := H
        replace H : (if t193 = 0 then (tolllaw03_PathChain.j1 kj5 t193 t194 t195 t196 t197 (t195 != 0)) else (tolllaw03_PathChain.j1 kj5 t193 t194 t195 t196 t197 true)) = some r := H
        have A16 := Aside0.mk A160
        clear A160
        have HC17 := Aside0.mk H
        clear H
        go_upto_region 7 with (first | (go_at_call 19; (with_reducible refine (path_Swap.calls kj5 2 t187 t188 t190 t192 t193 _ A14.out).mono ?_); rintro e w18 ⟨rfl, hb⟩; have n0_ := Aside0.mk (blk_below (g := gb186) (o := .cells #[.string a0_0, .string a0_1, .string a0_2, .string a0_3] 36 (0, 0)) (by (with_reducible repeat (first | refine blk_drewN ?_ _ | refine blk_drew ?_ | refine blk_alloc ?_ _)); exact BK186.out) hb); have n1_ := Aside0.mk (below_step (by repeat (first | (with_reducible first | exact HB.out | apply below_alloc | apply pw_below_drewN | apply below_drew1 | refine below_set ?_ GE186.out) | exact HB.out)) hb); clear BK186; clear HB; have BK186 := n0_; have HB := n1_; clear n0_ n1_; (try clear hb); (try clear hb2); (try clear hk); (try clear hi)) | (go_at_call 19; (with_reducible refine (path_Swap.calls kj5 2 t188 t189 t192 t194 t195 _ A15.out).mono ?_); rintro e w19 ⟨rfl, hb⟩; have n0_ := Aside0.mk (blk_below (g := gb186) (o := .cells #[.string a0_0, .string a0_1, .string a0_2, .string a0_3] 36 (0, 0)) (by (with_reducible repeat (first | refine blk_drewN ?_ _ | refine blk_drew ?_ | refine blk_alloc ?_ _)); exact BK186.out) hb); have n1_ := Aside0.mk (below_step (by repeat (first | (with_reducible first | exact HB.out | apply below_alloc | apply pw_below_drewN | apply below_drew1 | refine below_set ?_ GE186.out) | exact HB.out)) hb); clear BK186; clear HB; have BK186 := n0_; have HB := n1_; clear n0_ n1_; (try clear hb); (try clear hb2); (try clear hk); (try clear hi)) | (go_at_call 19; (with_reducible refine (path_Swap.calls kj5 2 t187 t189 t190 t196 t197 _ A16.out).mono ?_); rintro e w20 ⟨rfl, hb⟩; have n0_ := Aside0.mk (blk_below (g := gb186) (o := .cells #[.string a0_0, .string a0_1, .string a0_2, .string a0_3] 36 (0, 0)) (by (with_reducible repeat (first | refine blk_drewN ?_ _ | refine blk_drew ?_ | refine blk_alloc ?_ _)); exact BK186.out) hb); have n1_ := Aside0.mk (below_step (by repeat (first | (with_reducible first | exact HB.out | apply below_alloc | apply pw_below_drewN | apply below_drew1 | refine below_set ?_ GE186.out) | exact HB.out)) hb); clear BK186; clear HB; have BK186 := n0_; have HB := n1_; clear n0_ n1_; (try clear hb); (try clear hb2); (try clear hk); (try clear hi)))
        repeat (go_quiet (first | (go_at_call 19; (with_reducible refine (path_Swap.calls kj5 2 t187 t188 t190 t192 t193 _ A14.out).mono ?_); rintro e w18 ⟨rfl, hb⟩; have n0_ := Aside0.mk (blk_below (g := gb186) (o := .cells #[.string a0_0, .string a0_1, .string a0_2, .string a0_3] 36 (0, 0)) (by (with_reducible repeat (first | refine blk_drewN ?_ _ | refine blk_drew ?_ | refine blk_alloc ?_ _)); exact BK186.out) hb); have n1_ := Aside0.mk (below_step (by repeat (first | (with_reducible first | exact HB.out | apply below_alloc | apply pw_below_drewN | apply below_drew1 | refine below_set ?_ GE186.out) | exact HB.out)) hb); clear BK186; clear HB; have BK186 := n0_; have HB := n1_; clear n0_ n1_; (try clear hb); (try clear hb2); (try clear hk); (try clear hi)) | (go_at_call 19; (with_reducible refine (path_Swap.calls kj5 2 t188 t189 t192 t194 t195 _ A15.out).mono ?_); rintro e w19 ⟨rfl, hb⟩; have n0_ := Aside0.mk (blk_below (g := gb186) (o := .cells #[.string a0_0, .string a0_1, .string a0_2, .string a0_3] 36 (0, 0)) (by (with_reducible repeat (first | refine blk_drewN ?_ _ | refine blk_drew ?_ | refine blk_alloc ?_ _)); exact BK186.out) hb); have n1_ := Aside0.mk (below_step (by repeat (first | (with_reducible first | exact HB.out | apply below_alloc | apply pw_below_drewN | apply below_drew1 | refine below_set ?_ GE186.out) | exact HB.out)) hb); clear BK186; clear HB; have BK186 := n0_; have HB := n1_; clear n0_ n1_; (try clear hb); (try clear hb2); (try clear hk); (try clear hi)) | (go_at_call 19; (with_reducible refine (path_Swap.calls kj5 2 t187 t189 t190 t196 t197 _ A16.out).mono ?_); rintro e w20 ⟨rfl, hb⟩; have n0_ := Aside0.mk (blk_below (g := gb186) (o := .cells #[.string a0_0, .string a0_1, .string a0_2, .string a0_3] 36 (0, 0)) (by (with_reducible repeat (first | refine blk_drewN ?_ _ | refine blk_drew ?_ | refine blk_alloc ?_ _)); exact BK186.out) hb); have n1_ := Aside0.mk (below_step (by repeat (first | (with_reducible first | exact HB.out | apply below_alloc | apply pw_below_drewN | apply below_drew1 | refine below_set ?_ GE186.out) | exact HB.out)) hb); clear BK186; clear HB; have BK186 := n0_; have HB := n1_; clear n0_ n1_; (try clear hb); (try clear hb2); (try clear hk); (try clear hi))); go_upto_region 7 with (first | (go_at_call 19; (with_reducible refine (path_Swap.calls kj5 2 t187 t188 t190 t192 t193 _ A14.out).mono ?_); rintro e w18 ⟨rfl, hb⟩; have n0_ := Aside0.mk (blk_below (g := gb186) (o := .cells #[.string a0_0, .string a0_1, .string a0_2, .string a0_3] 36 (0, 0)) (by (with_reducible repeat (first | refine blk_drewN ?_ _ | refine blk_drew ?_ | refine blk_alloc ?_ _)); exact BK186.out) hb); have n1_ := Aside0.mk (below_step (by repeat (first | (with_reducible first | exact HB.out | apply below_alloc | apply pw_below_drewN | apply below_drew1 | refine below_set ?_ GE186.out) | exact HB.out)) hb); clear BK186; clear HB; have BK186 := n0_; have HB := n1_; clear n0_ n1_; (try clear hb); (try clear hb2); (try clear hk); (try clear hi)) | (go_at_call 19; (with_reducible refine (path_Swap.calls kj5 2 t188 t189 t192 t194 t195 _ A15.out).mono ?_); rintro e w19 ⟨rfl, hb⟩; have n0_ := Aside0.mk (blk_below (g := gb186) (o := .cells #[.string a0_0, .string a0_1, .string a0_2, .string a0_3] 36 (0, 0)) (by (with_reducible repeat (first | refine blk_drewN ?_ _ | refine blk_drew ?_ | refine blk_alloc ?_ _)); exact BK186.out) hb); have n1_ := Aside0.mk (below_step (by repeat (first | (with_reducible first | exact HB.out | apply below_alloc | apply pw_below_drewN | apply below_drew1 | refine below_set ?_ GE186.out) | exact HB.out)) hb); clear BK186; clear HB; have BK186 := n0_; have HB := n1_; clear n0_ n1_; (try clear hb); (try clear hb2); (try clear hk); (try clear hi)) | (go_at_call 19; (with_reducible refine (path_Swap.calls kj5 2 t187 t189 t190 t196 t197 _ A16.out).mono ?_); rintro e w20 ⟨rfl, hb⟩; have n0_ := Aside0.mk (blk_below (g := gb186) (o := .cells #[.string a0_0, .string a0_1, .string a0_2, .string a0_3] 36 (0, 0)) (by (with_reducible repeat (first | refine blk_drewN ?_ _ | refine blk_drew ?_ | refine blk_alloc ?_ _)); exact BK186.out) hb); have n1_ := Aside0.mk (below_step (by repeat (first | (with_reducible first | exact HB.out | apply below_alloc | apply pw_below_drewN | apply below_drew1 | refine below_set ?_ GE186.out) | exact HB.out)) hb); clear BK186; clear HB; have BK186 := n0_; have HB := n1_; clear n0_ n1_; (try clear hb); (try clear hb2); (try clear hk); (try clear hi))))
        (try simp only [Act.put, List.setIfInBounds_toArray, List.set_cons_zero, List.set_cons_succ])
        go_cut [65] (fun v65 wc => ∃ (kq : Nat) (x65_16 : Bool), v65 = .bool x65_16 ∧ Aside0 (tolllaw03_PathChain.j1 kq t193 t194 t195 t196 t197 x65_16 = some r) ∧ Aside0 (kq ≤ kj5) ∧ Aside0 (wc.heap[gb186]? = some (.cells #[.string a0_0, .string a0_1, .string a0_2, .string a0_3] 36 (0, 0))) ∧ Aside0 (Below w.heap.size w wc))
        case first =>
          have H := HC17.out
          clear HC17
          by_cases c21 : t193 = 0
          · rw [if_pos c21] at H
            have c21b0 : (t193 == 0) = true := beq_iff_eq.mpr c21
            have c21b1 : (t193 != 0) = false := bne_eq_false_iff_eq.mpr c21
            clear c21
            (first | rw [c21b0] | rw [c21b1] | rw [c21b2] | (simp only [i64_w, i32_w]; rw [c21b0]) | skip)
            have H' := Aside0.mk H
            clear H
            go_wp2
            repeat (go_quiet (fail); try go_wp2)
            go_meet
            case rel => exact ⟨_, ((t195 != 0)), (by first | rfl | (simp; done) | (simp [*]; done)), H', ⟨by have := HJ5.out; first | omega | exact Nat.le_refl _⟩, ⟨by (with_reducible repeat (first | refine blk_drewN ?_ _ | refine blk_drew ?_ | refine blk_alloc ?_ _)); exact BK186.out⟩, ⟨by repeat (first | (with_reducible first | exact HB.out | apply below_alloc | apply pw_below_drewN | apply below_drew1 | refine below_set ?_ GE186.out) | exact HB.out)⟩⟩
          · rw [if_neg c21] at H
            have c21b0 : (t193 == 0) = false := beq_eq_false_iff_ne.mpr c21
            have c21b1 : (t193 != 0) = true := bne_iff_ne.mpr c21
            (first | rw [c21b0] | rw [c21b1] | rw [c21b2] | (simp only [i64_w, i32_w]; rw [c21b0]) | skip)
            have H' := Aside0.mk H
            clear H
            go_wp2
            repeat (go_quiet (fail); try go_wp2)
            go_meet
            case rel => exact ⟨_, (true), (by first | rfl | (simp; done) | (simp [*]; done)), H', ⟨by have := HJ5.out; first | omega | exact Nat.le_refl _⟩, ⟨by (with_reducible repeat (first | refine blk_drewN ?_ _ | refine blk_drew ?_ | refine blk_alloc ?_ _)); exact BK186.out⟩, ⟨by repeat (first | (with_reducible first | exact HB.out | apply below_alloc | apply pw_below_drewN | apply below_drew1 | refine below_set ?_ GE186.out) | exact HB.out)⟩⟩
        case rest =>
          clear HC17
          try clear c1
          try clear c2
          try clear p2
          try clear c6
          try clear c9
          try clear c9b0
          try clear c9b1
          try clear c9b2
          try clear c10
          try clear c10b0
          try clear c10b1
          try clear c11
          try clear c21
          try clear c21b0
          try clear c21b1
          try clear c21b2
          try clear hcz8_0
          try clear hcz8_1
          try clear hcz8_2
          try clear hcz8_3
          try clear hfz8_0
          try clear hfz8_1
          try clear hfz8_2
          try clear hfz8_3
          try clear p2
          obtain ⟨kq, x65_16, rfl, HA, HJ16, BK186, HB⟩ := hcut
          cases kq with
          | zero => exact absurd HA.out (by simp [tolllaw03_PathChain.j1])
          | succ kj16 =>
            have H := HA.out
            clear HA
            simp only [tolllaw03_PathChain.j1] at H
            by_cases c22 : x65_16 = true
            · subst c22
              have H1 : (if t193 = 0 then (if t195 = 5 then (if t197 = 5 then ((tolllaw03_awake.f kj16).bind fun t198 => (some t198)) else (if t195 = 1 then (if t197 = 1 then ((tolllaw03_awake.f kj16).bind fun t199 => (some t199)) else (none)) else (none))) else (if t195 = 1 then (if t197 = 1 then ((tolllaw03_awake.f kj16).bind fun t200 => (some t200)) else (none)) else (none))) else ((tolllaw03_awake.f kj16).bind fun t201 => (some t201))) = some r := by rw [if_pos rfl] at H; exact H
              clear H
              have H := H1
              clear H1
              by_cases c23 : t193 = 0
              · rw [if_pos c23] at H
                have c23b0 : (t193 == 0) = true := beq_iff_eq.mpr c23
                have c23b1 : (t193 != 0) = false := bne_eq_false_iff_eq.mpr c23
                clear c23
                by_cases c24 : t195 = 5
                · rw [if_pos c24] at H
                  have c24b0 : (t195 == 5) = true := beq_iff_eq.mpr c24
                  have c24b1 : (t195 != 5) = false := bne_eq_false_iff_eq.mpr c24
                  clear c24
                  by_cases c25 : t197 = 5
                  · rw [if_pos c25] at H
                    have c25b0 : (t197 == 5) = true := beq_iff_eq.mpr c25
                    have c25b1 : (t197 != 5) = false := bne_eq_false_iff_eq.mpr c25
                    clear c25
                    replace H := Option.bind_eq_some_iff.mp H
                    obtain ⟨t198, A260, H⟩ := H
                    replace H : (some t198) = some r := H
                    have A26 := Aside0.mk A260
                    clear A260
                    obtain rfl := Option.some.inj H
                    go_wp2_with (first | (go_at_call 18; (with_reducible refine (tolllaw03_awake.calls kj16  t198 _ A26.out).mono ?_); rintro e w27 ⟨rfl, hb⟩; have n0_ := Aside0.mk (blk_below (g := gb186) (o := .cells #[.string a0_0, .string a0_1, .string a0_2, .string a0_3] 36 (0, 0)) (by (with_reducible repeat (first | refine blk_drewN ?_ _ | refine blk_drew ?_ | refine blk_alloc ?_ _)); exact BK186.out) hb); have n1_ := Aside0.mk (below_step (by repeat (first | (with_reducible first | exact HB.out | apply below_alloc | apply pw_below_drewN | apply below_drew1 | refine below_set ?_ GE186.out) | exact HB.out)) hb); clear BK186; clear HB; have BK186 := n0_; have HB := n1_; clear n0_ n1_; (try clear hb); (try clear hb2); (try clear hk); (try clear hi)))
                    repeat (go_quiet (first | (go_at_call 18; (with_reducible refine (tolllaw03_awake.calls kj16  t198 _ A26.out).mono ?_); rintro e w27 ⟨rfl, hb⟩; have n0_ := Aside0.mk (blk_below (g := gb186) (o := .cells #[.string a0_0, .string a0_1, .string a0_2, .string a0_3] 36 (0, 0)) (by (with_reducible repeat (first | refine blk_drewN ?_ _ | refine blk_drew ?_ | refine blk_alloc ?_ _)); exact BK186.out) hb); have n1_ := Aside0.mk (below_step (by repeat (first | (with_reducible first | exact HB.out | apply below_alloc | apply pw_below_drewN | apply below_drew1 | refine below_set ?_ GE186.out) | exact HB.out)) hb); clear BK186; clear HB; have BK186 := n0_; have HB := n1_; clear n0_ n1_; (try clear hb); (try clear hb2); (try clear hk); (try clear hi))); try go_wp2_with (first | (go_at_call 18; (with_reducible refine (tolllaw03_awake.calls kj16  t198 _ A26.out).mono ?_); rintro e w27 ⟨rfl, hb⟩; have n0_ := Aside0.mk (blk_below (g := gb186) (o := .cells #[.string a0_0, .string a0_1, .string a0_2, .string a0_3] 36 (0, 0)) (by (with_reducible repeat (first | refine blk_drewN ?_ _ | refine blk_drew ?_ | refine blk_alloc ?_ _)); exact BK186.out) hb); have n1_ := Aside0.mk (below_step (by repeat (first | (with_reducible first | exact HB.out | apply below_alloc | apply pw_below_drewN | apply below_drew1 | refine below_set ?_ GE186.out) | exact HB.out)) hb); clear BK186; clear HB; have BK186 := n0_; have HB := n1_; clear n0_ n1_; (try clear hb); (try clear hb2); (try clear hk); (try clear hi))))
                    go_ret
                    exact ⟨by first | rfl | (simp [errW_none, errW_some] <;> rfl) | (simp [*, errW_none, errW_some] <;> rfl), by repeat (first | (with_reducible first | exact HB.out | apply below_alloc | apply pw_below_drewN | apply below_drew1 | refine below_set ?_ GE186.out) | exact HB.out)⟩
                  · rw [if_neg c25] at H
                    have c25b0 : (t197 == 5) = false := beq_eq_false_iff_ne.mpr c25
                    have c25b1 : (t197 != 5) = true := bne_iff_ne.mpr c25
                    by_cases c28 : t195 = 1
                    · rw [if_pos c28] at H
                      have c28b0 : (t195 == 1) = true := beq_iff_eq.mpr c28
                      have c28b1 : (t195 != 1) = false := bne_eq_false_iff_eq.mpr c28
                      clear c28
                      by_cases c29 : t197 = 1
                      · rw [if_pos c29] at H
                        have c29b0 : (t197 == 1) = true := beq_iff_eq.mpr c29
                        have c29b1 : (t197 != 1) = false := bne_eq_false_iff_eq.mpr c29
                        clear c29
                        replace H := Option.bind_eq_some_iff.mp H
                        obtain ⟨t199, A300, H⟩ := H
                        replace H : (some t199) = some r := H
                        have A30 := Aside0.mk A300
                        clear A300
                        obtain rfl := Option.some.inj H
                        go_wp2_with (first | (go_at_call 18; (with_reducible refine (tolllaw03_awake.calls kj16  t199 _ A30.out).mono ?_); rintro e w31 ⟨rfl, hb⟩; have n0_ := Aside0.mk (blk_below (g := gb186) (o := .cells #[.string a0_0, .string a0_1, .string a0_2, .string a0_3] 36 (0, 0)) (by (with_reducible repeat (first | refine blk_drewN ?_ _ | refine blk_drew ?_ | refine blk_alloc ?_ _)); exact BK186.out) hb); have n1_ := Aside0.mk (below_step (by repeat (first | (with_reducible first | exact HB.out | apply below_alloc | apply pw_below_drewN | apply below_drew1 | refine below_set ?_ GE186.out) | exact HB.out)) hb); clear BK186; clear HB; have BK186 := n0_; have HB := n1_; clear n0_ n1_; (try clear hb); (try clear hb2); (try clear hk); (try clear hi)))
                        repeat (go_quiet (first | (go_at_call 18; (with_reducible refine (tolllaw03_awake.calls kj16  t199 _ A30.out).mono ?_); rintro e w31 ⟨rfl, hb⟩; have n0_ := Aside0.mk (blk_below (g := gb186) (o := .cells #[.string a0_0, .string a0_1, .string a0_2, .string a0_3] 36 (0, 0)) (by (with_reducible repeat (first | refine blk_drewN ?_ _ | refine blk_drew ?_ | refine blk_alloc ?_ _)); exact BK186.out) hb); have n1_ := Aside0.mk (below_step (by repeat (first | (with_reducible first | exact HB.out | apply below_alloc | apply pw_below_drewN | apply below_drew1 | refine below_set ?_ GE186.out) | exact HB.out)) hb); clear BK186; clear HB; have BK186 := n0_; have HB := n1_; clear n0_ n1_; (try clear hb); (try clear hb2); (try clear hk); (try clear hi))); try go_wp2_with (first | (go_at_call 18; (with_reducible refine (tolllaw03_awake.calls kj16  t199 _ A30.out).mono ?_); rintro e w31 ⟨rfl, hb⟩; have n0_ := Aside0.mk (blk_below (g := gb186) (o := .cells #[.string a0_0, .string a0_1, .string a0_2, .string a0_3] 36 (0, 0)) (by (with_reducible repeat (first | refine blk_drewN ?_ _ | refine blk_drew ?_ | refine blk_alloc ?_ _)); exact BK186.out) hb); have n1_ := Aside0.mk (below_step (by repeat (first | (with_reducible first | exact HB.out | apply below_alloc | apply pw_below_drewN | apply below_drew1 | refine below_set ?_ GE186.out) | exact HB.out)) hb); clear BK186; clear HB; have BK186 := n0_; have HB := n1_; clear n0_ n1_; (try clear hb); (try clear hb2); (try clear hk); (try clear hi))))
                        go_ret
                        exact ⟨by first | rfl | (simp [errW_none, errW_some] <;> rfl) | (simp [*, errW_none, errW_some] <;> rfl), by repeat (first | (with_reducible first | exact HB.out | apply below_alloc | apply pw_below_drewN | apply below_drew1 | refine below_set ?_ GE186.out) | exact HB.out)⟩
                      · rw [if_neg c29] at H
                        exact absurd H (by simp)
                    · rw [if_neg c28] at H
                      exact absurd H (by simp)
                · rw [if_neg c24] at H
                  have c24b0 : (t195 == 5) = false := beq_eq_false_iff_ne.mpr c24
                  have c24b1 : (t195 != 5) = true := bne_iff_ne.mpr c24
                  by_cases c32 : t195 = 1
                  · rw [if_pos c32] at H
                    have c32b0 : (t195 == 1) = true := beq_iff_eq.mpr c32
                    have c32b1 : (t195 != 1) = false := bne_eq_false_iff_eq.mpr c32
                    clear c32
                    by_cases c33 : t197 = 1
                    · rw [if_pos c33] at H
                      have c33b0 : (t197 == 1) = true := beq_iff_eq.mpr c33
                      have c33b1 : (t197 != 1) = false := bne_eq_false_iff_eq.mpr c33
                      clear c33
                      replace H := Option.bind_eq_some_iff.mp H
                      obtain ⟨t200, A340, H⟩ := H
                      replace H : (some t200) = some r := H
                      have A34 := Aside0.mk A340
                      clear A340
                      obtain rfl := Option.some.inj H
                      go_wp2_with (first | (go_at_call 18; (with_reducible refine (tolllaw03_awake.calls kj16  t200 _ A34.out).mono ?_); rintro e w35 ⟨rfl, hb⟩; have n0_ := Aside0.mk (blk_below (g := gb186) (o := .cells #[.string a0_0, .string a0_1, .string a0_2, .string a0_3] 36 (0, 0)) (by (with_reducible repeat (first | refine blk_drewN ?_ _ | refine blk_drew ?_ | refine blk_alloc ?_ _)); exact BK186.out) hb); have n1_ := Aside0.mk (below_step (by repeat (first | (with_reducible first | exact HB.out | apply below_alloc | apply pw_below_drewN | apply below_drew1 | refine below_set ?_ GE186.out) | exact HB.out)) hb); clear BK186; clear HB; have BK186 := n0_; have HB := n1_; clear n0_ n1_; (try clear hb); (try clear hb2); (try clear hk); (try clear hi)))
                      repeat (go_quiet (first | (go_at_call 18; (with_reducible refine (tolllaw03_awake.calls kj16  t200 _ A34.out).mono ?_); rintro e w35 ⟨rfl, hb⟩; have n0_ := Aside0.mk (blk_below (g := gb186) (o := .cells #[.string a0_0, .string a0_1, .string a0_2, .string a0_3] 36 (0, 0)) (by (with_reducible repeat (first | refine blk_drewN ?_ _ | refine blk_drew ?_ | refine blk_alloc ?_ _)); exact BK186.out) hb); have n1_ := Aside0.mk (below_step (by repeat (first | (with_reducible first | exact HB.out | apply below_alloc | apply pw_below_drewN | apply below_drew1 | refine below_set ?_ GE186.out) | exact HB.out)) hb); clear BK186; clear HB; have BK186 := n0_; have HB := n1_; clear n0_ n1_; (try clear hb); (try clear hb2); (try clear hk); (try clear hi))); try go_wp2_with (first | (go_at_call 18; (with_reducible refine (tolllaw03_awake.calls kj16  t200 _ A34.out).mono ?_); rintro e w35 ⟨rfl, hb⟩; have n0_ := Aside0.mk (blk_below (g := gb186) (o := .cells #[.string a0_0, .string a0_1, .string a0_2, .string a0_3] 36 (0, 0)) (by (with_reducible repeat (first | refine blk_drewN ?_ _ | refine blk_drew ?_ | refine blk_alloc ?_ _)); exact BK186.out) hb); have n1_ := Aside0.mk (below_step (by repeat (first | (with_reducible first | exact HB.out | apply below_alloc | apply pw_below_drewN | apply below_drew1 | refine below_set ?_ GE186.out) | exact HB.out)) hb); clear BK186; clear HB; have BK186 := n0_; have HB := n1_; clear n0_ n1_; (try clear hb); (try clear hb2); (try clear hk); (try clear hi))))
                      go_ret
                      exact ⟨by first | rfl | (simp [errW_none, errW_some] <;> rfl) | (simp [*, errW_none, errW_some] <;> rfl), by repeat (first | (with_reducible first | exact HB.out | apply below_alloc | apply pw_below_drewN | apply below_drew1 | refine below_set ?_ GE186.out) | exact HB.out)⟩
                    · rw [if_neg c33] at H
                      exact absurd H (by simp)
                  · rw [if_neg c32] at H
                    exact absurd H (by simp)
              · rw [if_neg c23] at H
                have c23b0 : (t193 == 0) = false := beq_eq_false_iff_ne.mpr c23
                have c23b1 : (t193 != 0) = true := bne_iff_ne.mpr c23
                replace H := Option.bind_eq_some_iff.mp H
                obtain ⟨t201, A360, H⟩ := H
                replace H : (some t201) = some r := H
                have A36 := Aside0.mk A360
                clear A360
                obtain rfl := Option.some.inj H
                go_wp2_with (first | (go_at_call 18; (with_reducible refine (tolllaw03_awake.calls kj16  t201 _ A36.out).mono ?_); rintro e w37 ⟨rfl, hb⟩; have n0_ := Aside0.mk (blk_below (g := gb186) (o := .cells #[.string a0_0, .string a0_1, .string a0_2, .string a0_3] 36 (0, 0)) (by (with_reducible repeat (first | refine blk_drewN ?_ _ | refine blk_drew ?_ | refine blk_alloc ?_ _)); exact BK186.out) hb); have n1_ := Aside0.mk (below_step (by repeat (first | (with_reducible first | exact HB.out | apply below_alloc | apply pw_below_drewN | apply below_drew1 | refine below_set ?_ GE186.out) | exact HB.out)) hb); clear BK186; clear HB; have BK186 := n0_; have HB := n1_; clear n0_ n1_; (try clear hb); (try clear hb2); (try clear hk); (try clear hi)))
                repeat (go_quiet (first | (go_at_call 18; (with_reducible refine (tolllaw03_awake.calls kj16  t201 _ A36.out).mono ?_); rintro e w37 ⟨rfl, hb⟩; have n0_ := Aside0.mk (blk_below (g := gb186) (o := .cells #[.string a0_0, .string a0_1, .string a0_2, .string a0_3] 36 (0, 0)) (by (with_reducible repeat (first | refine blk_drewN ?_ _ | refine blk_drew ?_ | refine blk_alloc ?_ _)); exact BK186.out) hb); have n1_ := Aside0.mk (below_step (by repeat (first | (with_reducible first | exact HB.out | apply below_alloc | apply pw_below_drewN | apply below_drew1 | refine below_set ?_ GE186.out) | exact HB.out)) hb); clear BK186; clear HB; have BK186 := n0_; have HB := n1_; clear n0_ n1_; (try clear hb); (try clear hb2); (try clear hk); (try clear hi))); try go_wp2_with (first | (go_at_call 18; (with_reducible refine (tolllaw03_awake.calls kj16  t201 _ A36.out).mono ?_); rintro e w37 ⟨rfl, hb⟩; have n0_ := Aside0.mk (blk_below (g := gb186) (o := .cells #[.string a0_0, .string a0_1, .string a0_2, .string a0_3] 36 (0, 0)) (by (with_reducible repeat (first | refine blk_drewN ?_ _ | refine blk_drew ?_ | refine blk_alloc ?_ _)); exact BK186.out) hb); have n1_ := Aside0.mk (below_step (by repeat (first | (with_reducible first | exact HB.out | apply below_alloc | apply pw_below_drewN | apply below_drew1 | refine below_set ?_ GE186.out) | exact HB.out)) hb); clear BK186; clear HB; have BK186 := n0_; have HB := n1_; clear n0_ n1_; (try clear hb); (try clear hb2); (try clear hk); (try clear hi))))
                go_ret
                exact ⟨by first | rfl | (simp [errW_none, errW_some] <;> rfl) | (simp [*, errW_none, errW_some] <;> rfl), by repeat (first | (with_reducible first | exact HB.out | apply below_alloc | apply pw_below_drewN | apply below_drew1 | refine below_set ?_ GE186.out) | exact HB.out)⟩
            · replace c22 := Bool.eq_false_iff.mpr c22
              subst c22
              have H1 : (if t194.toList = t196.toList then (if t197 = 0 then ((tolllaw03_awake.f kj16).bind fun t202 => (some t202)) else (none)) else (none)) = some r := by rw [if_neg (show ¬ (false = true) by decide)] at H; exact H
              clear H
              have H := H1
              clear H1
              by_cases c38 : t194.toList = t196.toList
              · rw [if_pos c38] at H
                have c38b0 : (t194.toList == t196.toList) = true := beq_iff_eq.mpr c38
                have c38b1 : (t194.toList != t196.toList) = false := bne_eq_false_iff_eq.mpr c38
                clear c38
                by_cases c39 : t197 = 0
                · rw [if_pos c39] at H
                  have c39b0 : (t197 == 0) = true := beq_iff_eq.mpr c39
                  have c39b1 : (t197 != 0) = false := bne_eq_false_iff_eq.mpr c39
                  clear c39
                  replace H := Option.bind_eq_some_iff.mp H
                  obtain ⟨t202, A400, H⟩ := H
                  replace H : (some t202) = some r := H
                  have A40 := Aside0.mk A400
                  clear A400
                  obtain rfl := Option.some.inj H
                  go_wp2_with (first | (go_at_call 18; (with_reducible refine (tolllaw03_awake.calls kj16  t202 _ A40.out).mono ?_); rintro e w41 ⟨rfl, hb⟩; have n0_ := Aside0.mk (blk_below (g := gb186) (o := .cells #[.string a0_0, .string a0_1, .string a0_2, .string a0_3] 36 (0, 0)) (by (with_reducible repeat (first | refine blk_drewN ?_ _ | refine blk_drew ?_ | refine blk_alloc ?_ _)); exact BK186.out) hb); have n1_ := Aside0.mk (below_step (by repeat (first | (with_reducible first | exact HB.out | apply below_alloc | apply pw_below_drewN | apply below_drew1 | refine below_set ?_ GE186.out) | exact HB.out)) hb); clear BK186; clear HB; have BK186 := n0_; have HB := n1_; clear n0_ n1_; (try clear hb); (try clear hb2); (try clear hk); (try clear hi)))
                  repeat (go_quiet (first | (go_at_call 18; (with_reducible refine (tolllaw03_awake.calls kj16  t202 _ A40.out).mono ?_); rintro e w41 ⟨rfl, hb⟩; have n0_ := Aside0.mk (blk_below (g := gb186) (o := .cells #[.string a0_0, .string a0_1, .string a0_2, .string a0_3] 36 (0, 0)) (by (with_reducible repeat (first | refine blk_drewN ?_ _ | refine blk_drew ?_ | refine blk_alloc ?_ _)); exact BK186.out) hb); have n1_ := Aside0.mk (below_step (by repeat (first | (with_reducible first | exact HB.out | apply below_alloc | apply pw_below_drewN | apply below_drew1 | refine below_set ?_ GE186.out) | exact HB.out)) hb); clear BK186; clear HB; have BK186 := n0_; have HB := n1_; clear n0_ n1_; (try clear hb); (try clear hb2); (try clear hk); (try clear hi))); try go_wp2_with (first | (go_at_call 18; (with_reducible refine (tolllaw03_awake.calls kj16  t202 _ A40.out).mono ?_); rintro e w41 ⟨rfl, hb⟩; have n0_ := Aside0.mk (blk_below (g := gb186) (o := .cells #[.string a0_0, .string a0_1, .string a0_2, .string a0_3] 36 (0, 0)) (by (with_reducible repeat (first | refine blk_drewN ?_ _ | refine blk_drew ?_ | refine blk_alloc ?_ _)); exact BK186.out) hb); have n1_ := Aside0.mk (below_step (by repeat (first | (with_reducible first | exact HB.out | apply below_alloc | apply pw_below_drewN | apply below_drew1 | refine below_set ?_ GE186.out) | exact HB.out)) hb); clear BK186; clear HB; have BK186 := n0_; have HB := n1_; clear n0_ n1_; (try clear hb); (try clear hb2); (try clear hk); (try clear hi))))
                  go_ret
                  exact ⟨by first | rfl | (simp [errW_none, errW_some] <;> rfl) | (simp [*, errW_none, errW_some] <;> rfl), by repeat (first | (with_reducible first | exact HB.out | apply below_alloc | apply pw_below_drewN | apply below_drew1 | refine below_set ?_ GE186.out) | exact HB.out)⟩
                · rw [if_neg c39] at H
                  exact absurd H (by simp)
              · rw [if_neg c38] at H
                exact absurd H (by simp)

/-- THE ONE PURE STATEMENT of tolllaw03_PathChain. -/
def tolllaw03_PathChain.Pure : Prop := ∀ (a0_0 : ByteArray) (a0_1 : ByteArray) (a0_2 : ByteArray) (a0_3 : ByteArray), ((a0_0.size ≤ 140737488351232) ∧ (a0_1.size ≤ 140737488351232) ∧ (a0_2.size ≤ 140737488351232) ∧ (a0_3.size ≤ 140737488351232)) → ∃ k, tolllaw03_PathChain.f k a0_0 a0_1 a0_2 a0_3 = some true

/-! ### tollref03_Swap: function 20 -/
mutual
def tollref03_Swap.j0 : Nat → ByteArray → ByteArray → Bool → Int → ByteArray → Option (ByteArray × Int)
  | 0, _, _, _, _, _ => none
  | k + 1, x1, x2, x22, x204000, x204001 => if x22 = true then (some ((⟨#[]⟩ : ByteArray), 1)) else (if (x204001.size : Int) > 1 then (if 0 ≤ (x204001.size : Int) then (if (x204001.size : Int) ≤ (x2.size : Int) then (tollref03_Swap.j1 k x1 (x2.extract x204001.size x2.size)) else (none)) else (none)) else (if (x2.size : Int) > 1 then (tollref03_Swap.j1 k x1 x2) else (tollref03_Swap.j1 k x1 (⟨#[]⟩ : ByteArray))))
def tollref03_Swap.j1 : Nat → ByteArray → ByteArray → Option (ByteArray × Int)
  | 0, _, _ => none
  | k + 1, x1, x8 => if (x1.size : Int) > 1 then (if x1.size + x8.size ≤ 9223372036854775807 then (tollref03_Swap.j2 k x1 (x1 ++ x8)) else (none)) else (tollref03_Swap.j2 k x1 x8)
def tollref03_Swap.j2 : Nat → ByteArray → ByteArray → Option (ByteArray × Int)
  | 0, _, _ => none
  | k + 1, x1, x8 => if x8.toList = ([] : List UInt8) then (if (x1.size : Int) > 60 then (some ((⟨#[]⟩ : ByteArray), 5)) else (some (x1, 0))) else (if (x8.size : Int) > 60 then (some ((⟨#[]⟩ : ByteArray), 5)) else (some (x8, 0)))
end
def tollref03_Swap.f (k : Nat) (a0_0 : Int) (a0_1 : ByteArray) (a1 : ByteArray) (a2 : ByteArray) : Option (ByteArray × Int) := if a0_0 = 2 then ((tollref03_Holds.f k a0_0 a0_1 a2).bind fun t204 => (if t204 = true then ((tollref03_Above.f k a1).bind fun t205 => (tollref03_Swap.j0 k a1 a2 (!t205) a0_0 a0_1)) else (tollref03_Swap.j0 k a1 a2 true a0_0 a0_1))) else (tollref03_Swap.j0 k a1 a2 true a0_0 a0_1)
theorem tollref03_Swap.mono_l : ∀ k, (∀ y0 y1 y2 y3 y4, LeO (tollref03_Swap.j0 k y0 y1 y2 y3 y4) (tollref03_Swap.j0 (k + 1) y0 y1 y2 y3 y4)) ∧ (∀ y0 y1, LeO (tollref03_Swap.j1 k y0 y1) (tollref03_Swap.j1 (k + 1) y0 y1)) ∧ (∀ y0 y1, LeO (tollref03_Swap.j2 k y0 y1) (tollref03_Swap.j2 (k + 1) y0 y1))
  | 0 => ⟨fun _ _ _ _ _ r h => by simp [tollref03_Swap.j0] at h, fun _ _ r h => by simp [tollref03_Swap.j1] at h, fun _ _ r h => by simp [tollref03_Swap.j2] at h⟩
  | k + 1 => by
    obtain ⟨ih0, ih1, ih2⟩ := tollref03_Swap.mono_l k
    refine ⟨?_, ?_, ?_⟩
    · intro y0 y1 y2 y3 y4
      unfold tollref03_Swap.j0
      repeat' first
      | (with_reducible exact ih0 _ _ _ _ _)
      | (with_reducible exact ih1 _ _)
      | (with_reducible exact ih2 _ _)
      | (with_reducible exact tollref03_Above.mono _ _)
      | (with_reducible exact tollref03_Holds.mono _ _ _ _)
      | (with_reducible exact LeO.refl _)
      | (with_reducible exact LeO.none _)
      | (with_reducible refine LeO.ite ?_ ?_)
      | (with_reducible refine LeO.bind ?_ (fun _ => ?_))
      | exact ih0 _ _ _ _ _
      | exact ih1 _ _
      | exact ih2 _ _
      | exact tollref03_Above.mono _ _
      | exact tollref03_Holds.mono _ _ _ _
      | exact LeO.none _
      | refine LeO.ite ?_ ?_
      | refine LeO.bind ?_ (fun _ => ?_)
    · intro y0 y1
      unfold tollref03_Swap.j1
      repeat' first
      | (with_reducible exact ih0 _ _ _ _ _)
      | (with_reducible exact ih1 _ _)
      | (with_reducible exact ih2 _ _)
      | (with_reducible exact tollref03_Above.mono _ _)
      | (with_reducible exact tollref03_Holds.mono _ _ _ _)
      | (with_reducible exact LeO.refl _)
      | (with_reducible exact LeO.none _)
      | (with_reducible refine LeO.ite ?_ ?_)
      | (with_reducible refine LeO.bind ?_ (fun _ => ?_))
      | exact ih0 _ _ _ _ _
      | exact ih1 _ _
      | exact ih2 _ _
      | exact tollref03_Above.mono _ _
      | exact tollref03_Holds.mono _ _ _ _
      | exact LeO.none _
      | refine LeO.ite ?_ ?_
      | refine LeO.bind ?_ (fun _ => ?_)
    · intro y0 y1
      unfold tollref03_Swap.j2
      repeat' first
      | (with_reducible exact ih0 _ _ _ _ _)
      | (with_reducible exact ih1 _ _)
      | (with_reducible exact ih2 _ _)
      | (with_reducible exact tollref03_Above.mono _ _)
      | (with_reducible exact tollref03_Holds.mono _ _ _ _)
      | (with_reducible exact LeO.refl _)
      | (with_reducible exact LeO.none _)
      | (with_reducible refine LeO.ite ?_ ?_)
      | (with_reducible refine LeO.bind ?_ (fun _ => ?_))
      | exact ih0 _ _ _ _ _
      | exact ih1 _ _
      | exact ih2 _ _
      | exact tollref03_Above.mono _ _
      | exact tollref03_Holds.mono _ _ _ _
      | exact LeO.none _
      | refine LeO.ite ?_ ?_
      | refine LeO.bind ?_ (fun _ => ?_)
theorem tollref03_Swap.mono : ∀ a0 a1 a2 a3 k, LeO (tollref03_Swap.f k a0 a1 a2 a3) (tollref03_Swap.f (k + 1) a0 a1 a2 a3) := by
  intro a0 a1 a2 a3 k
  obtain ⟨ih0, ih1, ih2⟩ := tollref03_Swap.mono_l k
  unfold tollref03_Swap.f
  repeat' first
      | (with_reducible exact ih0 _ _ _ _ _)
      | (with_reducible exact ih1 _ _)
      | (with_reducible exact ih2 _ _)
      | (with_reducible exact tollref03_Above.mono _ _)
      | (with_reducible exact tollref03_Holds.mono _ _ _ _)
      | (with_reducible exact LeO.refl _)
      | (with_reducible exact LeO.none _)
      | (with_reducible refine LeO.ite ?_ ?_)
      | (with_reducible refine LeO.bind ?_ (fun _ => ?_))
      | exact ih0 _ _ _ _ _
      | exact ih1 _ _
      | exact ih2 _ _
      | exact tollref03_Above.mono _ _
      | exact tollref03_Holds.mono _ _ _ _
      | exact LeO.none _
      | refine LeO.ite ?_ ?_
      | refine LeO.bind ?_ (fun _ => ?_)
set_option maxHeartbeats 8000000 in
set_option maxRecDepth 100000 in
theorem tollref03_Swap.calls (k : Nat) (a0_0 : Int) (a0_1 : ByteArray) (a1 : ByteArray) (a2 : ByteArray) (r1 : ByteArray) (r2 : Int) (w : World) (h : tollref03_Swap.f k a0_0 a0_1 a1 a2 = some (r1, r2)) :
    Calls Try.prog 20 #[.agg #[.int .i64 a0_0, .string a0_1], .string a1, .string a2] w fun e w' => e = .returned (.tuple #[.string r1, .int .i64 r2]) ∧ Below w.heap.size w w' := by
  have hu23 := Try.underlying23
  have HB := Aside0.mk (Below.refl w.heap.size w)
  have H : (if a0_0 = 2 then ((tollref03_Holds.f k a0_0 a0_1 a2).bind fun t204 => (if t204 = true then ((tollref03_Above.f k a1).bind fun t205 => (tollref03_Swap.j0 k a1 a2 (!t205) a0_0 a0_1)) else (tollref03_Swap.j0 k a1 a2 true a0_0 a0_1))) else (tollref03_Swap.j0 k a1 a2 true a0_0 a0_1)) = some (r1, r2) := h
  clear h
  have HC4 := Aside0.mk H
  clear H
  go_enter Try.func20, Try.ntmps20
  go_upto_region 1 with (first | ((with_reducible refine gate_dst (N := 3) rfl ?_); refine box_event ?hg (N := 3) ?hd (cs := #[.int .i64 a0_0, .string a0_1]) (t := 23) ?hr ?_; (case hd => rfl); (case hg => rfl); (case hr => first | (go_simp; done) | (go_simp; rfl)); intro gb203 hg w5 hbox hb; have n0_ := Aside0.mk (below_step (by repeat (first | (with_reducible first | exact HB.out | apply below_alloc | apply pw_below_drewN | apply below_drew1) | exact HB.out)) hb); have n1_ := Aside0.mk (hbox); have n2_ := Aside0.mk ((by rw [hg]; exact (below_size (by repeat (first | (with_reducible first | exact HB.out | apply below_alloc | apply pw_below_drewN | apply below_drew1) | exact HB.out))) : w.heap.size ≤ gb203)); have n3_ := Aside0.mk ((by rw [hg]; exact (below_size (by repeat (first | (with_reducible first | exact HB.out | apply below_alloc | apply pw_below_drewN | apply below_drew1) | exact HB.out))) : w.heap.size ≤ gb203)); clear HB; have HB := n0_; have BK203 := n1_; have GW203 := n2_; have GE203 := n3_; clear n0_ n1_ n2_ n3_; clear hb hbox hg))
  (try simp only [Act.put, List.setIfInBounds_toArray, List.set_cons_zero, List.set_cons_succ])
  go_cut [22] (fun v22 wc => ∃ (kq : Nat) (x22_3 : Bool), v22 = .bool x22_3 ∧ Aside0 (tollref03_Swap.j0 kq a1 a2 x22_3 a0_0 a0_1 = some (r1, r2)) ∧ Aside0 (kq ≤ k) ∧ Aside0 (wc.heap[gb203]? = some (.cells #[.int .i64 a0_0, .string a0_1] 23 (0, 0))) ∧ Aside0 (Below w.heap.size w wc))
  case first =>
    have H := HC4.out
    clear HC4
    by_cases c6 : a0_0 = 2
    · rw [if_pos c6] at H
      have c6b0 : (a0_0 == 2) = true := beq_iff_eq.mpr c6
      have c6b1 : (a0_0 != 2) = false := bne_eq_false_iff_eq.mpr c6
      clear c6
      (first | rw [c6b0] | rw [c6b1] | rw [c6b2] | (simp only [i64_w, i32_w]; rw [c6b0]) | skip)
      replace H := Option.bind_eq_some_iff.mp H
      obtain ⟨t204, A70, H⟩ := H
      replace H : (if t204 = true then ((tollref03_Above.f k a1).bind fun t205 => (tollref03_Swap.j0 k a1 a2 (!t205) a0_0 a0_1)) else (tollref03_Swap.j0 k a1 a2 true a0_0 a0_1)) = some (r1, r2) := H
      have A7 := Aside0.mk A70
      clear A70
      by_cases c8 : t204 = true
      · subst c8
        have H1 : ((tollref03_Above.f k a1).bind fun t205 => (tollref03_Swap.j0 k a1 a2 (!t205) a0_0 a0_1)) = some (r1, r2) := by rw [if_pos rfl] at H; exact H
        clear H
        have H := H1
        clear H1
        replace H := Option.bind_eq_some_iff.mp H
        obtain ⟨t205, A90, H⟩ := H
        replace H : (tollref03_Swap.j0 k a1 a2 (!t205) a0_0 a0_1) = some (r1, r2) := H
        have A9 := Aside0.mk A90
        clear A90
        have H' := Aside0.mk H
        clear H
        have hcz10_0 : w5.cell? ⟨gb203, 0, none⟩ = some (.int .i64 a0_0) := (blk_cell BK203.out 0).trans rfl
        have hcz10_1 : w5.cell? ⟨gb203, 1, none⟩ = some (.string a0_1) := (blk_cell BK203.out 1).trans rfl
        have hfz10_0 := blk_frozen BK203.out 0
        have hfz10_1 := blk_frozen BK203.out 1
        go_wp2_with (first | (go_at_call 17; (with_reducible refine (tollref03_Holds.calls k a0_0 a0_1 a2 true _ A7.out).mono ?_); rintro e w11 ⟨rfl, hb⟩; have n0_ := Aside0.mk (blk_below (g := gb203) (o := .cells #[.int .i64 a0_0, .string a0_1] 23 (0, 0)) (by (with_reducible repeat (first | refine blk_drewN ?_ _ | refine blk_drew ?_ | refine blk_alloc ?_ _)); exact BK203.out) hb); have n1_ := Aside0.mk (below_step (by repeat (first | (with_reducible first | exact HB.out | apply below_alloc | apply pw_below_drewN | apply below_drew1 | refine below_set ?_ GE203.out) | exact HB.out)) hb); clear BK203; clear HB; have BK203 := n0_; have HB := n1_; clear n0_ n1_; (try clear hb); (try clear hb2); (try clear hk); (try clear hi)) | (go_at_call 25; (with_reducible refine (tollref03_Above.calls k a1 t205 _ A9.out).mono ?_); rintro e w' ⟨rfl, ⟨nd, rfl⟩⟩))
        go_meet
        case rel => exact ⟨_, (!t205), (by first | rfl | (simp; done) | (simp [*]; done)), H', ⟨by first | omega | exact Nat.le_refl _⟩, ⟨by (with_reducible repeat (first | refine blk_drewN ?_ _ | refine blk_drew ?_ | refine blk_alloc ?_ _)); exact BK203.out⟩, ⟨by repeat (first | (with_reducible first | exact HB.out | apply below_alloc | apply pw_below_drewN | apply below_drew1 | refine below_set ?_ GE203.out) | exact HB.out)⟩⟩
      · replace c8 := Bool.eq_false_iff.mpr c8
        subst c8
        have H1 : (tollref03_Swap.j0 k a1 a2 true a0_0 a0_1) = some (r1, r2) := by rw [if_neg (show ¬ (false = true) by decide)] at H; exact H
        clear H
        have H := H1
        clear H1
        have H' := Aside0.mk H
        clear H
        have hcz12_0 : w5.cell? ⟨gb203, 0, none⟩ = some (.int .i64 a0_0) := (blk_cell BK203.out 0).trans rfl
        have hcz12_1 : w5.cell? ⟨gb203, 1, none⟩ = some (.string a0_1) := (blk_cell BK203.out 1).trans rfl
        have hfz12_0 := blk_frozen BK203.out 0
        have hfz12_1 := blk_frozen BK203.out 1
        go_wp2_with (first | (go_at_call 17; (with_reducible refine (tollref03_Holds.calls k a0_0 a0_1 a2 false _ A7.out).mono ?_); rintro e w13 ⟨rfl, hb⟩; have n0_ := Aside0.mk (blk_below (g := gb203) (o := .cells #[.int .i64 a0_0, .string a0_1] 23 (0, 0)) (by (with_reducible repeat (first | refine blk_drewN ?_ _ | refine blk_drew ?_ | refine blk_alloc ?_ _)); exact BK203.out) hb); have n1_ := Aside0.mk (below_step (by repeat (first | (with_reducible first | exact HB.out | apply below_alloc | apply pw_below_drewN | apply below_drew1 | refine below_set ?_ GE203.out) | exact HB.out)) hb); clear BK203; clear HB; have BK203 := n0_; have HB := n1_; clear n0_ n1_; (try clear hb); (try clear hb2); (try clear hk); (try clear hi)))
        go_meet
        case rel => exact ⟨_, (true), (by first | rfl | (simp; done) | (simp [*]; done)), H', ⟨by first | omega | exact Nat.le_refl _⟩, ⟨by (with_reducible repeat (first | refine blk_drewN ?_ _ | refine blk_drew ?_ | refine blk_alloc ?_ _)); exact BK203.out⟩, ⟨by repeat (first | (with_reducible first | exact HB.out | apply below_alloc | apply pw_below_drewN | apply below_drew1 | refine below_set ?_ GE203.out) | exact HB.out)⟩⟩
    · rw [if_neg c6] at H
      have c6b0 : (a0_0 == 2) = false := beq_eq_false_iff_ne.mpr c6
      have c6b1 : (a0_0 != 2) = true := bne_iff_ne.mpr c6
      (first | rw [c6b0] | rw [c6b1] | rw [c6b2] | (simp only [i64_w, i32_w]; rw [c6b0]) | skip)
      have H' := Aside0.mk H
      clear H
      have hcz14_0 : w5.cell? ⟨gb203, 0, none⟩ = some (.int .i64 a0_0) := (blk_cell BK203.out 0).trans rfl
      have hcz14_1 : w5.cell? ⟨gb203, 1, none⟩ = some (.string a0_1) := (blk_cell BK203.out 1).trans rfl
      have hfz14_0 := blk_frozen BK203.out 0
      have hfz14_1 := blk_frozen BK203.out 1
      go_wp2
      go_meet
      case rel => exact ⟨_, (true), (by first | rfl | (simp; done) | (simp [*]; done)), H', ⟨by first | omega | exact Nat.le_refl _⟩, ⟨by (with_reducible repeat (first | refine blk_drewN ?_ _ | refine blk_drew ?_ | refine blk_alloc ?_ _)); exact BK203.out⟩, ⟨by repeat (first | (with_reducible first | exact HB.out | apply below_alloc | apply pw_below_drewN | apply below_drew1 | refine below_set ?_ GE203.out) | exact HB.out)⟩⟩
  case rest =>
    clear HC4
    try clear c2
    try clear p2
    try clear c6
    try clear c6b0
    try clear c6b1
    try clear c6b2
    try clear c8
    try clear hcz10_0
    try clear hcz10_1
    try clear hcz12_0
    try clear hcz12_1
    try clear hcz14_0
    try clear hcz14_1
    try clear hfz10_0
    try clear hfz10_1
    try clear hfz12_0
    try clear hfz12_1
    try clear hfz14_0
    try clear hfz14_1
    obtain ⟨kq, x22_3, rfl, HA, HJ3, BK203, HB⟩ := hcut
    cases kq with
    | zero => exact absurd HA.out (by simp [tollref03_Swap.j0])
    | succ kj3 =>
      have H := HA.out
      clear HA
      simp only [tollref03_Swap.j0] at H
      by_cases c15 : x22_3 = true
      · subst c15
        have H1 : (some ((⟨#[]⟩ : ByteArray), 1)) = some (r1, r2) := by rw [if_pos rfl] at H; exact H
        clear H
        have H := H1
        clear H1
        simp only [Option.some.injEq, Prod.mk.injEq] at H
        obtain ⟨rfl, rfl⟩ := H
        go_wp2
        go_ret2
        exact ⟨by first | rfl | (simp [errW_none, errW_some] <;> rfl) | (simp [*, errW_none, errW_some] <;> rfl), by repeat (first | (with_reducible first | exact HB.out | apply below_alloc | apply pw_below_drewN | apply below_drew1 | refine below_set ?_ GE203.out) | exact HB.out)⟩
      · replace c15 := Bool.eq_false_iff.mpr c15
        subst c15
        have H1 : (if (a0_1.size : Int) > 1 then (if 0 ≤ (a0_1.size : Int) then (if (a0_1.size : Int) ≤ (a2.size : Int) then (tollref03_Swap.j1 kj3 a1 (a2.extract a0_1.size a2.size)) else (none)) else (none)) else (if (a2.size : Int) > 1 then (tollref03_Swap.j1 kj3 a1 a2) else (tollref03_Swap.j1 kj3 a1 (⟨#[]⟩ : ByteArray)))) = some (r1, r2) := by rw [if_neg (show ¬ (false = true) by decide)] at H; exact H
        clear H
        have H := H1
        clear H1
        have HC16 := Aside0.mk H
        clear H
        have hcz17_0 : wc.cell? ⟨gb203, 0, none⟩ = some (.int .i64 a0_0) := (blk_cell BK203.out 0).trans rfl
        have hcz17_1 : wc.cell? ⟨gb203, 1, none⟩ = some (.string a0_1) := (blk_cell BK203.out 1).trans rfl
        have hfz17_0 := blk_frozen BK203.out 0
        have hfz17_1 := blk_frozen BK203.out 1
        go_upto_if 26 with (fail)
        go_cut [8] (fun v8 wc => ∃ (kq : Nat) (x8_15 : ByteArray), v8 = .string x8_15 ∧ Aside0 (tollref03_Swap.j1 kq a1 x8_15 = some (r1, r2)) ∧ Aside0 (kq ≤ kj3) ∧ Aside0 (wc.heap[gb203]? = some (.cells #[.int .i64 a0_0, .string a0_1] 23 (0, 0))) ∧ Aside0 (Below w.heap.size w wc))
        case first =>
          have H := HC16.out
          clear HC16
          by_cases c18 : (a0_1.size : Int) > 1
          · rw [if_pos c18] at H
            have c18b0 : decide (1 < (a0_1.size : Int)) = true := decide_eq_true c18
            have c18b1 : decide (1 < a0_1.size) = true := decide_eq_true (by omega)
            clear c18
            (first | rw [c18b0] | rw [c18b1] | rw [c18b2] | (simp only [i64_w, i32_w]; rw [c18b0]) | skip)
            by_cases c19 : 0 ≤ (a0_1.size : Int)
            · rw [if_pos c19] at H
              have c19b0 := eq_true c19
              have c19b1 : decide (0 ≤ (a0_1.size : Int)) = true := decide_eq_true c19
              clear c19
              by_cases c20 : (a0_1.size : Int) ≤ (a2.size : Int)
              · rw [if_pos c20] at H
                have c20b0 := eq_true c20
                have c20b1 : decide ((a0_1.size : Int) ≤ (a2.size : Int)) = true := decide_eq_true c20
                clear c20
                have H' := Aside0.mk H
                clear H
                have hcz21_0 : wc.cell? ⟨gb203, 0, none⟩ = some (.int .i64 a0_0) := (blk_cell BK203.out 0).trans rfl
                have hcz21_1 : wc.cell? ⟨gb203, 1, none⟩ = some (.string a0_1) := (blk_cell BK203.out 1).trans rfl
                have hfz21_0 := blk_frozen BK203.out 0
                have hfz21_1 := blk_frozen BK203.out 1
                go_wp2
                go_meet
                case rel => exact ⟨_, (a2.extract a0_1.size a2.size), (by first | rfl | (simp; done) | (simp [*]; done)), H', ⟨by have := HJ3.out; first | omega | exact Nat.le_refl _⟩, ⟨by (with_reducible repeat (first | refine blk_drewN ?_ _ | refine blk_drew ?_ | refine blk_alloc ?_ _)); exact BK203.out⟩, ⟨by repeat (first | (with_reducible first | exact HB.out | apply below_alloc | apply pw_below_drewN | apply below_drew1 | refine below_set ?_ GE203.out) | exact HB.out)⟩⟩
              · rw [if_neg c20] at H
                exact absurd H (by simp)
            · rw [if_neg c19] at H
              exact absurd H (by simp)
          · rw [if_neg c18] at H
            have c18b0 : decide (1 < (a0_1.size : Int)) = false := decide_eq_false c18
            have c18b1 : decide (1 < a0_1.size) = false := decide_eq_false (by omega)
            clear c18
            (first | rw [c18b0] | rw [c18b1] | rw [c18b2] | (simp only [i64_w, i32_w]; rw [c18b0]) | skip)
            by_cases c22 : (a2.size : Int) > 1
            · rw [if_pos c22] at H
              have c22b0 : decide (1 < (a2.size : Int)) = true := decide_eq_true c22
              have c22b1 : decide (1 < a2.size) = true := decide_eq_true (by omega)
              clear c22
              have H' := Aside0.mk H
              clear H
              go_wp2
              go_meet
              case rel => exact ⟨_, (a2), (by first | rfl | (simp; done) | (simp [*]; done)), H', ⟨by have := HJ3.out; first | omega | exact Nat.le_refl _⟩, ⟨by (with_reducible repeat (first | refine blk_drewN ?_ _ | refine blk_drew ?_ | refine blk_alloc ?_ _)); exact BK203.out⟩, ⟨by repeat (first | (with_reducible first | exact HB.out | apply below_alloc | apply pw_below_drewN | apply below_drew1 | refine below_set ?_ GE203.out) | exact HB.out)⟩⟩
            · rw [if_neg c22] at H
              have c22b0 : decide (1 < (a2.size : Int)) = false := decide_eq_false c22
              have c22b1 : decide (1 < a2.size) = false := decide_eq_false (by omega)
              clear c22
              have H' := Aside0.mk H
              clear H
              go_wp2
              go_meet
              case rel => exact ⟨_, ((⟨#[]⟩ : ByteArray)), (by first | rfl | (simp; done) | (simp [*]; done)), H', ⟨by have := HJ3.out; first | omega | exact Nat.le_refl _⟩, ⟨by (with_reducible repeat (first | refine blk_drewN ?_ _ | refine blk_drew ?_ | refine blk_alloc ?_ _)); exact BK203.out⟩, ⟨by repeat (first | (with_reducible first | exact HB.out | apply below_alloc | apply pw_below_drewN | apply below_drew1 | refine below_set ?_ GE203.out) | exact HB.out)⟩⟩
        case rest =>
          clear HC16
          try clear c1
          try clear c2
          try clear p2
          try clear c6
          try clear c6b0
          try clear c6b1
          try clear c6b2
          try clear c8
          try clear c15
          try clear c18
          try clear c18b0
          try clear c18b1
          try clear c18b2
          try clear c19
          try clear c19b0
          try clear c19b1
          try clear c20
          try clear c20b0
          try clear c20b1
          try clear c22
          try clear c22b0
          try clear c22b1
          try clear hcz10_0
          try clear hcz10_1
          try clear hcz12_0
          try clear hcz12_1
          try clear hcz14_0
          try clear hcz14_1
          try clear hcz17_0
          try clear hcz17_1
          try clear hcz21_0
          try clear hcz21_1
          try clear hfz10_0
          try clear hfz10_1
          try clear hfz12_0
          try clear hfz12_1
          try clear hfz14_0
          try clear hfz14_1
          try clear hfz17_0
          try clear hfz17_1
          try clear hfz21_0
          try clear hfz21_1
          try clear p2
          obtain ⟨kq, x8_15, rfl, HA, HJ15, BK203, HB⟩ := hcut
          cases kq with
          | zero => exact absurd HA.out (by simp [tollref03_Swap.j1])
          | succ kj15 =>
            have H := HA.out
            clear HA
            simp only [tollref03_Swap.j1] at H
            have HC23 := Aside0.mk H
            clear H
            go_upto_if 38 with (fail)
            go_cut [8] (fun v8 wc => ∃ (kq : Nat) (x8_22 : ByteArray), v8 = .string x8_22 ∧ Aside0 (tollref03_Swap.j2 kq a1 x8_22 = some (r1, r2)) ∧ Aside0 (kq ≤ kj15) ∧ Aside0 (wc.heap[gb203]? = some (.cells #[.int .i64 a0_0, .string a0_1] 23 (0, 0))) ∧ Aside0 (Below w.heap.size w wc))
            case first =>
              have H := HC23.out
              clear HC23
              by_cases c24 : (a1.size : Int) > 1
              · rw [if_pos c24] at H
                have c24b0 : decide (1 < (a1.size : Int)) = true := decide_eq_true c24
                have c24b1 : decide (1 < a1.size) = true := decide_eq_true (by omega)
                clear c24
                (first | rw [c24b0] | rw [c24b1] | rw [c24b2] | (simp only [i64_w, i32_w]; rw [c24b0]) | skip)
                by_cases c25 : a1.size + x8_15.size ≤ 9223372036854775807
                · rw [if_pos c25] at H
                  have c25b0 := eq_true c25
                  have c25b1 : decide (a1.size + x8_15.size ≤ 9223372036854775807) = true := decide_eq_true c25
                  try have c25b2 : (9223372036854775807 < a1.size + x8_15.size) = False := eq_false (Nat.not_lt.2 c25)
                  have H' := Aside0.mk H
                  clear H
                  go_wp2
                  go_meet
                  case rel => exact ⟨_, (a1 ++ x8_15), (by first | rfl | (simp; done) | (simp [*]; done)), H', ⟨by have := HJ3.out; have := HJ15.out; first | omega | exact Nat.le_refl _⟩, ⟨by (with_reducible repeat (first | refine blk_drewN ?_ _ | refine blk_drew ?_ | refine blk_alloc ?_ _)); exact BK203.out⟩, ⟨by repeat (first | (with_reducible first | exact HB.out | apply below_alloc | apply pw_below_drewN | apply below_drew1 | refine below_set ?_ GE203.out) | exact HB.out)⟩⟩
                · rw [if_neg c25] at H
                  exact absurd H (by simp)
              · rw [if_neg c24] at H
                have c24b0 : decide (1 < (a1.size : Int)) = false := decide_eq_false c24
                have c24b1 : decide (1 < a1.size) = false := decide_eq_false (by omega)
                clear c24
                (first | rw [c24b0] | rw [c24b1] | rw [c24b2] | (simp only [i64_w, i32_w]; rw [c24b0]) | skip)
                have H' := Aside0.mk H
                clear H
                go_wp2
                go_meet
                case rel => exact ⟨_, (x8_15), (by first | rfl | (simp; done) | (simp [*]; done)), H', ⟨by have := HJ3.out; have := HJ15.out; first | omega | exact Nat.le_refl _⟩, ⟨by (with_reducible repeat (first | refine blk_drewN ?_ _ | refine blk_drew ?_ | refine blk_alloc ?_ _)); exact BK203.out⟩, ⟨by repeat (first | (with_reducible first | exact HB.out | apply below_alloc | apply pw_below_drewN | apply below_drew1 | refine below_set ?_ GE203.out) | exact HB.out)⟩⟩
            case rest =>
              clear HC23
              try clear c1
              try clear c2
              try clear p2
              try clear c6
              try clear c6b0
              try clear c6b1
              try clear c6b2
              try clear c8
              try clear c15
              try clear c18
              try clear c18b0
              try clear c18b1
              try clear c18b2
              try clear c19
              try clear c19b0
              try clear c19b1
              try clear c20
              try clear c20b0
              try clear c20b1
              try clear c22
              try clear c22b0
              try clear c22b1
              try clear c24
              try clear c24b0
              try clear c24b1
              try clear c24b2
              try clear c25
              try clear c25b0
              try clear c25b1
              try clear c25b2
              try clear hcz10_0
              try clear hcz10_1
              try clear hcz12_0
              try clear hcz12_1
              try clear hcz14_0
              try clear hcz14_1
              try clear hcz17_0
              try clear hcz17_1
              try clear hcz21_0
              try clear hcz21_1
              try clear hfz10_0
              try clear hfz10_1
              try clear hfz12_0
              try clear hfz12_1
              try clear hfz14_0
              try clear hfz14_1
              try clear hfz17_0
              try clear hfz17_1
              try clear hfz21_0
              try clear hfz21_1
              try clear p2
              obtain ⟨kq, x8_22, rfl, HA, HJ22, BK203, HB⟩ := hcut
              cases kq with
              | zero => exact absurd HA.out (by simp [tollref03_Swap.j2])
              | succ kj22 =>
                have H := HA.out
                clear HA
                simp only [tollref03_Swap.j2] at H
                by_cases c26 : x8_22.toList = ([] : List UInt8)
                · rw [if_pos c26] at H
                  have c26b0 : (x8_22.toList == ([] : List UInt8)) = true := beq_iff_eq.mpr c26
                  have c26b1 : (x8_22.toList != ([] : List UInt8)) = false := bne_eq_false_iff_eq.mpr c26
                  clear c26
                  by_cases c27 : (a1.size : Int) > 60
                  · rw [if_pos c27] at H
                    have c27b0 : decide (60 < (a1.size : Int)) = true := decide_eq_true c27
                    have c27b1 : decide (60 < a1.size) = true := decide_eq_true (by omega)
                    clear c27
                    simp only [Option.some.injEq, Prod.mk.injEq] at H
                    obtain ⟨rfl, rfl⟩ := H
                    go_wp2
                    go_ret2
                    exact ⟨by first | rfl | (simp [errW_none, errW_some] <;> rfl) | (simp [*, errW_none, errW_some] <;> rfl), by repeat (first | (with_reducible first | exact HB.out | apply below_alloc | apply pw_below_drewN | apply below_drew1 | refine below_set ?_ GE203.out) | exact HB.out)⟩
                  · rw [if_neg c27] at H
                    have c27b0 : decide (60 < (a1.size : Int)) = false := decide_eq_false c27
                    have c27b1 : decide (60 < a1.size) = false := decide_eq_false (by omega)
                    clear c27
                    simp only [Option.some.injEq, Prod.mk.injEq] at H
                    obtain ⟨rfl, rfl⟩ := H
                    go_wp2
                    go_ret2
                    exact ⟨by first | rfl | (simp [errW_none, errW_some] <;> rfl) | (simp [*, errW_none, errW_some] <;> rfl), by repeat (first | (with_reducible first | exact HB.out | apply below_alloc | apply pw_below_drewN | apply below_drew1 | refine below_set ?_ GE203.out) | exact HB.out)⟩
                · rw [if_neg c26] at H
                  have c26b0 : (x8_22.toList == ([] : List UInt8)) = false := beq_eq_false_iff_ne.mpr c26
                  have c26b1 : (x8_22.toList != ([] : List UInt8)) = true := bne_iff_ne.mpr c26
                  by_cases c28 : (x8_22.size : Int) > 60
                  · rw [if_pos c28] at H
                    have c28b0 : decide (60 < (x8_22.size : Int)) = true := decide_eq_true c28
                    have c28b1 : decide (60 < x8_22.size) = true := decide_eq_true (by omega)
                    clear c28
                    simp only [Option.some.injEq, Prod.mk.injEq] at H
                    obtain ⟨rfl, rfl⟩ := H
                    go_wp2
                    go_ret2
                    exact ⟨by first | rfl | (simp [errW_none, errW_some] <;> rfl) | (simp [*, errW_none, errW_some] <;> rfl), by repeat (first | (with_reducible first | exact HB.out | apply below_alloc | apply pw_below_drewN | apply below_drew1 | refine below_set ?_ GE203.out) | exact HB.out)⟩
                  · rw [if_neg c28] at H
                    have c28b0 : decide (60 < (x8_22.size : Int)) = false := decide_eq_false c28
                    have c28b1 : decide (60 < x8_22.size) = false := decide_eq_false (by omega)
                    clear c28
                    simp only [Option.some.injEq, Prod.mk.injEq] at H
                    obtain ⟨rfl, rfl⟩ := H
                    go_wp2
                    go_ret2
                    exact ⟨by first | rfl | (simp [errW_none, errW_some] <;> rfl) | (simp [*, errW_none, errW_some] <;> rfl), by repeat (first | (with_reducible first | exact HB.out | apply below_alloc | apply pw_below_drewN | apply below_drew1 | refine below_set ?_ GE203.out) | exact HB.out)⟩

end Go.Proofs.Ytfnckickbpmcaaa.P
